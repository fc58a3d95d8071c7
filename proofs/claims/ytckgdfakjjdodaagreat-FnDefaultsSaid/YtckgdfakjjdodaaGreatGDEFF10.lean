/- Functions of the program as pure functions,and that it computes them. Printed by a program of mine (gen.py). -/
import Derived.Test.YtckgdfakjjdodaaGreatGDEFF7
set_option linter.unusedVariables false
set_option linter.unusedSimpArgs false
set_option maxRecDepth 100000
namespace Go.Am
open Go Go.Proofs
def Kjt : Option (List (List Nat)) := rx [[0],[0],[0,1],[0,1,2],[0],[0,4],[6],[7]]
def Kju : Option (List (List Nat)) := rx [[0],[0],[0],[0,2],[0],[0],[0],[0,6],[0],[0,8],[0,8,9],[0,2,3,5,6,7,8,9,10],[0],[0,12],[0,12,13],[0,2,3,4,5,6,7,8,9,10,11,12,13,14],[1,2,3,4,5,6,7,8,9,10,11,12,13,14,15],[1,2,3,4,5,6,7,8,9,10,11,12,13,14,15,16],[1,2,3,4,5,6,7,8,9,10,11,12,13,14,15,16,17],[19],[20],[21]]
def Kjv : Option (List (List Nat)) := rx [[0],[0],[0],[0],[0,3],[0],[0,5],[0,2,3,4,5,6],[0,2,3,4,5,6,7],[0],[0,9],[0,9,10],[1,2,3,4,5,6,7,8,9,10,11],[1,2,3,4,5,6,7,8,9,10,11,12],[1,2,3,4,5,6,7,8,9,10,11,12,13],[15],[16],[17]]
def Kjw : Option (List (List Nat)) := rx [[0],[0],[0,1],[0,1,2],[0],[0,4],[6],[7],[8],[9],[9],[9,10],[9,10,11],[9],[9,13],[15],[16],[17]]
def Kjx (p : K05 × K03 × LL × K02 × LL × LL) : Option (Int × K03) :=
 match p with
 | (p0,out1,ctx2,t3,needs4,used5) =>
  ((
   if (t3.fOp == 0) = true then
   (idx ctx2 t3.fN) >>= fun a0 =>
   (Kej a0) >>= fun a1 =>
   (idx out1.fneeds t3.fN) >>= fun a2 =>
   some (.inl (a1,(List.set out1.fneeds (Int.toNat t3.fN) 1)))
   else
   ((
    if (t3.fOp == 1) = true then
    some (.inl ([0],out1.fneeds))
    else
    ((
     if (t3.fOp == 2) = true then
     (idx needs4 0) >>= fun a3 =>
     (idx needs4 1) >>= fun a4 =>
     (Khw (p0,a3,a4)) >>= fun a5 =>
     some (.inl ([0],a5))
     else
     ((
      if (t3.fOp == 3) = true then
      (Khz (1,out1)) >>= fun a6 =>
      (Khz (2,out1)) >>= fun a7 =>
      (Kfj (a6,a7)) >>= fun a8 =>
      if a8 = true then
       (Khz (1,out1)) >>= fun a9 =>
       (idx needs4 0) >>= fun b1 =>
       (idx needs4 1) >>= fun b2 =>
       (idx needs4 2) >>= fun b3 =>
       (Ki9 (p0,b2,b3)) >>= fun b4 =>
       (Khw (p0,b1,b4)) >>= fun b5 =>
       some (.inl (a9,b5))
      else
       some (.inr (3,out1))
      else
      ((
       if (t3.fOp == 4) = true then
       (Khz (0,out1)) >>= fun b6 =>
       (Khz (1,out1)) >>= fun b7 =>
       (Kin [[1],b6,b7]) >>= fun b8 =>
       (idx needs4 0) >>= fun b9 =>
       (idx needs4 1) >>= fun c0 =>
       (Khw (p0,b9,c0)) >>= fun c1 =>
       some (.inl (b8,c1))
       else
       ((
        if (t3.fOp == 5) = true then
        (idx used5 1) >>= fun c2 =>
        (Kj3 (p0,c2,t3.fN)) >>= fun c3 =>
        if c3 = true then
         (Khz (1,out1)) >>= fun c4 =>
         (idx needs4 0) >>= fun c5 =>
         (Kja (p0,t3.fN,c5)) >>= fun c6 =>
         (idx needs4 1) >>= fun c7 =>
         (Khw (p0,c6,c7)) >>= fun c8 =>
         some (.inl (c4,c8))
        else
         some (.inr (9,out1))
        else
        ((
         if (t3.fOp == 6) = true then
         (Khz (0,out1)) >>= fun c9 =>
         (Kin [[2],c9,t3.fType]) >>= fun d0 =>
         (idx needs4 0) >>= fun d1 =>
         some (.inl (d0,d1))
         else
         ((
          if (t3.fOp == 7) = true then
          (Khz (0,out1)) >>= fun d2 =>
          (Kin [[2],t3.fType,d2]) >>= fun d3 =>
          (idx needs4 0) >>= fun d4 =>
          some (.inl (d3,d4))
          else
          ((
           if (t3.fOp == 8) = true then
           (Khz (1,out1)) >>= fun d5 =>
           (Khz (2,out1)) >>= fun d6 =>
           (Kfj (d5,d6)) >>= fun d7 =>
           if d7 = true then
            ((
            (idx used5 1) >>= fun d8 =>
            (Kj3 (p0,d8,t3.fN)) >>= fun d9 =>
            if d9 = true then
             (idx used5 2) >>= fun e0 =>
             (Kj3 (p0,e0,t3.fN)) >>= fun e1 =>
             some ((!e1))
            else
             some (true)
            ) : Option (Bool)) >>= fun e2 =>
            if e2 = true then
            some (.inr (9,out1))
            else
            (Khz (1,out1)) >>= fun e3 =>
            (idx needs4 0) >>= fun e4 =>
            (Kja (p0,t3.fN,e4)) >>= fun e5 =>
            (idx needs4 1) >>= fun e6 =>
            (idx needs4 2) >>= fun e7 =>
            (Ki9 (p0,e6,e7)) >>= fun e8 =>
            (Khw (p0,e5,e8)) >>= fun e9 =>
            some (.inl (e3,e9))
           else
            some (.inr (3,out1))
           else
           ((
            if (t3.fOp == 9) = true then
            (idx used5 0) >>= fun f0 =>
            (Kj3 (p0,f0,t3.fN)) >>= fun f1 =>
            if f1 = true then
             (Khz (0,out1)) >>= fun f2 =>
             (Kin [[(wr (3 + t3.fN))],t3.fType,f2]) >>= fun f3 =>
             (idx needs4 0) >>= fun f4 =>
             some (.inl (f3,f4))
            else
             some (.inr (9,out1))
            else
            ((
             if (t3.fOp == 10) = true then
             (Khz (0,out1)) >>= fun f5 =>
             (idx f5 0) >>= fun f6 =>
             (Kcd f6) >>= fun (f7,f8) =>
             (Khz (0,out1)) >>= fun f9 =>
             (Keg f9) >>= fun g0 =>
             (idx g0 1) >>= fun g1 =>
             (idx needs4 0) >>= fun g2 =>
             (idx needs4 1) >>= fun g3 =>
             (Kja (p0,f8,g3)) >>= fun g4 =>
             (Khw (p0,g2,g4)) >>= fun g5 =>
             some (.inl (g1,g5))
             else
             ((
              if (t3.fOp == 11) = true then
              (Khz (0,out1)) >>= fun g6 =>
              (Kin [[(wr (19 + t3.fN))],g6]) >>= fun g7 =>
              (idx needs4 0) >>= fun g8 =>
              (Kja (p0,t3.fN,g8)) >>= fun g9 =>
              some (.inl (g7,g9))
              else
              ((
               if (t3.fOp == 12) = true then
               (Khz (0,out1)) >>= fun i0 =>
               (idx i0 0) >>= fun i1 =>
               (Kcd i1) >>= fun (i2,i3) =>
               (idx used5 1) >>= fun i4 =>
               (Kd3 (p0.fs,t3.fN,i3)) >>= fun i5 =>
               (Kj3 (p0,i4,i5)) >>= fun i6 =>
               if i6 = true then
               (Khz (1,out1)) >>= fun i7 =>
               (idx needs4 0) >>= fun i8 =>
               (Kja (p0,t3.fN,i8)) >>= fun i9 =>
               (idx needs4 1) >>= fun j0 =>
               (Khw (p0,i9,j0)) >>= fun j8 =>
               some (.inl (i7,j8))
               else
               some (.inr (9,out1))
               else
               some (.inl (out1.fty,out1.fneeds))) : Option (((List Int) × (List Int)) ⊕ ((Int × K03)))) >>= fun fl => match fl with
              | .inl (j9,k0) =>
               some (.inl (j9,k0))
              | .inr r =>
               some (.inr r)) : Option (((List Int) × (List Int)) ⊕ ((Int × K03)))) >>= fun fl => match fl with
             | .inl (k1,k2) =>
              some (.inl (k1,k2))
             | .inr r =>
              some (.inr r)) : Option (((List Int) × (List Int)) ⊕ ((Int × K03)))) >>= fun fl => match fl with
            | .inl (k3,k4) =>
             some (.inl (k3,k4))
            | .inr r =>
             some (.inr r)) : Option (((List Int) × (List Int)) ⊕ ((Int × K03)))) >>= fun fl => match fl with
           | .inl (k5,k6) =>
            some (.inl (k5,k6))
           | .inr r =>
            some (.inr r)) : Option (((List Int) × (List Int)) ⊕ ((Int × K03)))) >>= fun fl => match fl with
          | .inl (k7,k8) =>
           some (.inl (k7,k8))
          | .inr r =>
           some (.inr r)) : Option (((List Int) × (List Int)) ⊕ ((Int × K03)))) >>= fun fl => match fl with
         | .inl (k9,l0) =>
          some (.inl (k9,l0))
         | .inr r =>
          some (.inr r)) : Option (((List Int) × (List Int)) ⊕ ((Int × K03)))) >>= fun fl => match fl with
        | .inl (l1,l2) =>
         some (.inl (l1,l2))
        | .inr r =>
         some (.inr r)) : Option (((List Int) × (List Int)) ⊕ ((Int × K03)))) >>= fun fl => match fl with
       | .inl (l3,l4) =>
        some (.inl (l3,l4))
       | .inr r =>
        some (.inr r)) : Option (((List Int) × (List Int)) ⊕ ((Int × K03)))) >>= fun fl => match fl with
      | .inl (l5,l6) =>
       some (.inl (l5,l6))
      | .inr r =>
       some (.inr r)) : Option (((List Int) × (List Int)) ⊕ ((Int × K03)))) >>= fun fl => match fl with
     | .inl (l7,l8) =>
      some (.inl (l7,l8))
     | .inr r =>
      some (.inr r)) : Option (((List Int) × (List Int)) ⊕ ((Int × K03)))) >>= fun fl => match fl with
    | .inl (l9,m0) =>
     some (.inl (l9,m0))
    | .inr r =>
     some (.inr r)) : Option (((List Int) × (List Int)) ⊕ ((Int × K03)))) >>= fun fl => match fl with
   | .inl (m1,m2) =>
    some (.inl (m1,m2))
   | .inr r =>
    some (.inr r)) : Option (((List Int) × (List Int)) ⊕ ((Int × K03)))) >>= fun fl => match fl with
  | .inl (m3,m4) =>
   (Kjd m3) >>= fun m5 =>
   if m5 = true then
   some (3,(K03.mk m3 m4 out1.fkids out1.ffault out1.fpath))
   else
   some (0,(K03.mk m3 m4 out1.fkids out1.ffault out1.fpath))
  | .inr r =>
   some r
def Kjy (p : K05 × K03 × LL × K02 × LL × LL) (r : Int × K03) : Prop :=
 match p with
 | (p0,out1,ctx2,t3,needs4,used5) => Q71 Tryz.prog 222 [K21 p0,.optr [oI out1.fty,oI out1.fneeds,.osl (List.map K06 out1.fkids),I out1.ffault,oI out1.fpath],sL ctx2,K1x t3,sL needs4,sL used5] (I r.1) [.undef,.optr [.sl (List.map I r.2.fty),.sl (List.map I r.2.fneeds),.sl (List.map K06 r.2.fkids),I r.2.ffault,.sl (List.map I r.2.fpath)],.undef,.undef,.undef,.undef]
theorem Kjz : ∀ p r,Kjx p = some r → Kjy p r := by
 rintro ⟨p0,out1,ctx2,t3,needs4,used5⟩ r h
 unfold Kjx at h
 refine Q71.bodyO K2w (fn := Tryz.f222) (code := K6z) (by kernel_rfl) (by kernel_rfl) (by kernel_rfl) (nt := 362) (by kernel_rfl) (by kernel_rfl) (T := [(0,K21 p0),(1,.ra 2000 0),(2,sL ctx2),(3,K1x t3),(4,sL needs4),(5,sL used5)]) (O := [(2000,.box [.rs 2001,.rs 2002,.rs 2003,I out1.ffault,.rs 2004]),(2001,rI out1.fty),(2002,rI out1.fneeds),(2003,.arr (List.map K06 out1.fkids)),(2004,rI out1.fpath)]) (by kernel_rfl) (by kernel_rfl) (fun c hc => ?_)
 refine vz 2001 (Qe5 out1.fty) [(0,K21 p0),(1,.ra 2000 0),(2,sL ctx2),(3,K1x t3),(4,sL needs4),(5,sL used5)] [(2000,.box [sI out1.fty,.rs 2002,.rs 2003,I out1.ffault,.rs 2004]),(2002,rI out1.fneeds),(2003,.arr (List.map K06 out1.fkids)),(2004,rI out1.fpath)] ?_
 refine vz 2003 (K0d out1.fkids) [(0,K21 p0),(1,.ra 2000 0),(2,sL ctx2),(3,K1x t3),(4,sL needs4),(5,sL used5)] [(2000,.box [sI out1.fty,.rs 2002,.sl (List.map K06 out1.fkids),I out1.ffault,.rs 2004]),(2002,rI out1.fneeds),(2004,rI out1.fpath)] ?_
 refine vz 2004 (Qe5 out1.fpath) [(0,K21 p0),(1,.ra 2000 0),(2,sL ctx2),(3,K1x t3),(4,sL needs4),(5,sL used5)] [(2000,.box [sI out1.fty,.rs 2002,.sl (List.map K06 out1.fkids),I out1.ffault,sI out1.fpath]),(2002,rI out1.fneeds)] ?_
 refine rs hc none [some (.new 1),some (.new 2),some (.new 3),oN] [(2,sL ctx2),(4,sL needs4),(5,sL used5),(6,.ra 1 0),(7,.ra 2 0),(9,.ra 3 0)] [(1,K20 p0),(2,.box [.ra 2000 0]),(3,K1w t3),(2000,.box [sI out1.fty,.rs 2002,.sl (List.map K06 out1.fkids),I out1.ffault,sI out1.fpath]),(2002,rI out1.fneeds)] tv ?_
 refine K7k hc 2 [(2,sL ctx2),(4,sL needs4),(5,sL used5),(6,.ra 1 0),(7,.ra 2 0),(9,.ra 3 0),(13,.fn 243 [.ra 2 0])] ?_
 refine sN ?_
 refine K7k hc 2 [(2,sL ctx2),(4,sL needs4),(5,sL used5),(6,.ra 1 0),(7,.ra 2 0),(9,.ra 3 0),(13,.fn 243 [.ra 2 0]),(20,I t3.fOp)] ?_
 refine bk 0 ?_
 refine K7k hc 2 [(2,sL ctx2),(4,sL needs4),(5,sL used5),(6,.ra 1 0),(7,.ra 2 0),(9,.ra 3 0),(13,.fn 243 [.ra 2 0]),(20,I t3.fOp),(21,.bool (t3.fOp == 0))] ?_
 obtain ⟨fl,a0,h⟩ := Qdd h
 refine flw (Kjs c p0 out1 ctx2 t3 needs4 used5 fl) ?_ (fun hF => ?_)
 ·replace h := a0
  refine ic h (fun a1 h => ?_) fun a1 h => ?_
  ·obtain ⟨a2,a3,a4,a5,h⟩ := bq2 h
   refine rs hc (rx [[0],[0],[0],[0,2],[0,1,2,3],[0,1,2,3,4],[0,1,2,3,4,5],[7],[8],[9]]) [oN,oN,oN,oN,some (.el (sI a2)),oN,some (.call (oI a4) [] 4),oN,oN,oN] [(7,.ra 2 0),(9,.ra 3 0)] [(2,.box [.ra 2000 0]),(3,K1w t3),(4,rI a4),(2000,.box [.rs 4,.rs 2002,.sl (List.map K06 out1.fkids),I out1.ffault,sI out1.fpath]),(2002,rI out1.fneeds)] (ai (xL a3) (cq (Kel _ _ a5) K55 tv)) ?_
   obtain ⟨a6,a7,h⟩ := Qdd h
   refine rg hc (rx [[0],[1],[2],[3],[0],[0,4],[6],[7]]) [oN,oN,oN,oN,oN,oN,oN,some (.eqv (.mk 0 true) ⟨[],[(2002,some (.arr (List.map I (List.set out1.fneeds (Int.toNat t3.fN) 1))))],[]⟩)] [(7,.ra 2 0)] [(2,.box [.ra 2000 0]),(4,rI a4),(2000,.box [.rs 4,.rs 2002,.sl (List.map K06 out1.fkids),I out1.ffault,sI out1.fpath]),(2002,.arr (List.map I (List.set out1.fneeds (Int.toNat t3.fN) 1)))] (ac (Qdi (enc := I) a7) (congrArg (fun z => (⟨[],[(2002,some (.arr z))],[]⟩ : Wr)) (Qeg (enc := I) (i := Int.toNat t3.fN) (l := out1.fneeds) (v := 1) (x := I 1) (Qds 1))) (Qeh (enc := I) (sz := 1) Qdw a7) tv) ?_
   obtain rfl := os h
   exact Qcz.view (fun a w hv => SRx.renL [] (SRx.frzC 2002 (xs := List.map I (List.set out1.fneeds (Int.toNat t3.fN) 1)) (xs' := List.map I (List.set out1.fneeds (Int.toNat t3.fN) 1)) (SRx.frzC 4 (xs := List.map I a4) (xs' := List.map I a4) hv (by kernel_rfl) (Qe5 _)) (by kernel_rfl) (Qe5 _)) (by kernel_rfl) (by kernel_rfl) (by kernel_rfl))
  refine K7k hc 2 [(4,sL needs4),(5,sL used5),(6,.ra 1 0),(7,.ra 2 0),(9,.ra 3 0),(13,.fn 243 [.ra 2 0]),(20,I t3.fOp),(39,.bool (t3.fOp == 1))] ?_
  obtain ⟨fl,a8,h⟩ := Qdd h
  refine flw (Kjr c p0 out1 ctx2 t3 needs4 used5 fl) ?_ (fun hF => ?_)
  ·replace h := a8
   refine ic h (fun a9 h => ?_) fun a9 h => ?_
   ·refine rg hc none [oN,some (.mk 5 true),oN,oN,oN] [(7,.ra 2 0)] [(2,.box [.ra 2000 0]),(5,.arr (List.map I [0])),(2000,.box [.rs 5,.rs 2002,.sl (List.map K06 out1.fkids),I out1.ffault,sI out1.fpath]),(2002,rI out1.fneeds)] tv ?_
    obtain rfl := os h
    exact Qcz.view (fun a w hv => SRx.renL [] (SRx.frzC 2002 (xs := List.map I out1.fneeds) (xs' := List.map I out1.fneeds) (SRx.frzC 5 (xs := List.map I [0]) (xs' := List.map I [0]) hv (by kernel_rfl) (Qe5 _)) (by kernel_rfl) (Qe5 _)) (by kernel_rfl) (by kernel_rfl) (by kernel_rfl))
   refine K7k hc 2 [(4,sL needs4),(5,sL used5),(6,.ra 1 0),(7,.ra 2 0),(9,.ra 3 0),(13,.fn 243 [.ra 2 0]),(20,I t3.fOp),(45,.bool (t3.fOp == 2))] ?_
   obtain ⟨fl,b1,h⟩ := Qdd h
   refine flw (Kjq c p0 out1 ctx2 t3 needs4 used5 fl) ?_ (fun hF => ?_)
   ·replace h := b1
    refine ic h (fun b2 h => ?_) fun b2 h => ?_
    ·obtain ⟨b3,b4,b5,b6,b7,b8,h⟩ := bq3 h
     refine rg hc (rx [[0],[0],[0],[0],[0],[0,4],[0,4,5],[0],[0,7],[0,7,8],[0,3,4,5,6,7,8,9],[1,2,3,4,5,6,7,8,9,10],[1,2,3,4,5,6,7,8,9,10,11],[1,2,3,4,5,6,7,8,9,10,11,12],[14],[15],[16]]) [oN,oN,some (.mk 6 true),oN,oN,some (.el (sI b3)),oN,oN,some (.el (sI b5)),oN,some (.call (oI b7) [] 7),oN,oN,oN,oN,oN,oN] [(7,.ra 2 0)] [(2,.box [.ra 2000 0]),(6,.arr (List.map I [0])),(7,rI b7),(2000,.box [.rs 6,.rs 7,.sl (List.map K06 out1.fkids),I out1.ffault,sI out1.fpath])] (ab (xL b4) (xL b6) (cq (Khy _ _ b8) K6i tv)) ?_
     obtain rfl := os h
     exact Qcz.view (fun a w hv => SRx.renL [] (SRx.frzC 7 (xs := List.map I b7) (xs' := List.map I b7) (SRx.frzC 6 (xs := List.map I [0]) (xs' := List.map I [0]) hv (by kernel_rfl) (Qe5 _)) (by kernel_rfl) (Qe5 _)) (by kernel_rfl) (by kernel_rfl) (by kernel_rfl))
    refine K7k hc 2 [(4,sL needs4),(5,sL used5),(6,.ra 1 0),(7,.ra 2 0),(9,.ra 3 0),(13,.fn 243 [.ra 2 0]),(20,I t3.fOp),(62,.bool (t3.fOp == 3))] ?_
    obtain ⟨fl,b9,h⟩ := Qdd h
    refine flw (Kjp c p0 out1 ctx2 t3 needs4 used5 fl) ?_ (fun hF => ?_)
    ·replace h := b9
     refine ic h (fun c0 h => ?_) fun c0 h => ?_
     ·refine sN ?_
      refine sN ?_
      refine vz 2002 (Qe5 out1.fneeds) [(4,sL needs4),(5,sL used5),(6,.ra 1 0),(7,.ra 2 0),(9,.ra 3 0),(13,.fn 243 [.ra 2 0]),(20,I t3.fOp),(62,.bool (t3.fOp == 3))] [(1,K20 p0),(2,.box [.ra 2000 0]),(3,K1w t3),(2000,K1y out1)] ?_
      obtain ⟨c1,c2,c3,c4,c5,c6,h⟩ := bq3 h
      refine rg hc none [oN,some (.el (sI c1)),oN,some (.el (sI c3)),oc (.bool c5),oN] [(4,sL needs4),(6,.ra 1 0),(7,.ra 2 0),(13,.fn 243 [.ra 2 0]),(69,.bool (!c5))] [(1,K20 p0),(2,.box [.ra 2000 0]),(2000,K1y out1)] (ad (Ki1 _ _ c2) K6k (Ki1 _ _ c4) K6k (cq (Kfl _ _ c6) K5h tv)) ?_
      rcases is h with ⟨c7,h⟩ | ⟨c7,h⟩
      ·refine cF (!c5) (nF c7) ?_
       refine sk ?_
       obtain ⟨c8,c9,d0,d1,d2,d3,d4,d5,h⟩ := bq4 h
       obtain ⟨d6,d7,d8,d9,h⟩ := bq2 h
       refine rg hc (rx [[0],[0],[0],[0,2],[0],[0],[0,5],[0,5,6],[0],[0],[0,9],[0,9,10],[0],[0,12],[0,12,13],[0,2,3,8,9,10,11,12,13,14],[0,2,3,4,5,6,7,8,9,10,11,12,13,14,15],[1,2,3,4,5,6,7,8,9,10,11,12,13,14,15,16],[1,2,3,4,5,6,7,8,9,10,11,12,13,14,15,16,17],[1,2,3,4,5,6,7,8,9,10,11,12,13,14,15,16,17,18],[20],[21],[22]]) [oN,oN,oN,some (.el (sI c8)),oN,oN,some (.el (sI d0)),oN,oN,oN,some (.el (sI d2)),oN,oN,some (.el (sI d4)),oN,some (.call (oI d6) [] 8),some (.call (oI d8) [] 9),oN,oN,oN,oN,oN,oN] [(7,.ra 2 0)] [(2,.box [.ra 2000 0]),(9,rI d8),(2000,.box [sI c8,.rs 9,.sl (List.map K06 out1.fkids),I out1.ffault,sI out1.fpath])] (ad (Ki1 _ _ c9) K6k (xL d1) (xL d3) (ai (xL d5) (cq (Kib _ _ d7) K6m (ac (Q71.args (A1 := [K21 p0,sI d0,.sl (Q02 (List.map I d6))]) (A2 := [K21 p0,sI d0,sI d6]) (by simp only [List.map_nil,Qe5]) (Khy _ _ d9)) K6i (Or.inr (Qed Qe9 d8) : ([8] : List Nat) = [] ∨ noSh (oI d8) = true) tv)))) ?_
       obtain rfl := os h
       exact Qcz.view (fun a w hv => SRx.renL [] (SRx.frzC 9 (xs := List.map I d8) (xs' := List.map I d8) hv (by kernel_rfl) (Qe5 _)) (by kernel_rfl) (by kernel_rfl) (by kernel_rfl))
      refine cT (!c5) (nT c7) ?_
      refine rs0 hc 1 [(12,I 3)] [(2000,K1y out1)] ?_
      refine rt ?_
      obtain rfl := os h
      exact Qdb.ret (fl := [true]) (by kernel_rfl)
     refine K7k hc 2 [(4,sL needs4),(5,sL used5),(6,.ra 1 0),(7,.ra 2 0),(9,.ra 3 0),(13,.fn 243 [.ra 2 0]),(20,I t3.fOp),(91,.bool (t3.fOp == 4))] ?_
     obtain ⟨fl,e0,h⟩ := Qdd h
     refine flw (Kjo c p0 out1 ctx2 t3 needs4 used5 fl) ?_ (fun hF => ?_)
     ·replace h := e0
      refine ic h (fun e1 h => ?_) fun e1 h => ?_
      ·refine vz 2002 (Qe5 out1.fneeds) [(4,sL needs4),(5,sL used5),(6,.ra 1 0),(7,.ra 2 0),(9,.ra 3 0),(13,.fn 243 [.ra 2 0]),(20,I t3.fOp),(91,.bool (t3.fOp == 4))] [(1,K20 p0),(2,.box [.ra 2000 0]),(3,K1w t3),(2000,K1y out1)] ?_
       obtain ⟨e2,e3,e4,e5,e6,e7,e8,e9,h⟩ := bq4 h
       obtain ⟨f0,f1,f2,f3,h⟩ := bq2 h
       refine rg hc (rx [[0],[0],[0],[0],[0,3],[0],[0,3,4,5],[0,2,3,4,5,6],[0,2,3,4,5,6,7],[0],[0],[0,10],[0,10,11],[0],[0,13],[0,13,14],[0,2,3,4,5,6,7,8,9,10,11,12,13,14,15],[1,2,3,4,5,6,7,8,9,10,11,12,13,14,15,16],[1,2,3,4,5,6,7,8,9,10,11,12,13,14,15,16,17],[1,2,3,4,5,6,7,8,9,10,11,12,13,14,15,16,17,18],[20],[21],[22]]) [oN,oN,some (.mk 11 true),oN,some (.el (sI e2)),oN,some (.el (sI e4)),some (.mk 12 true),some (.call (sI e6) [.tup []] 1),oN,oN,some (.el (sI e8)),oN,oN,some (.el (sI f0)),oN,some (.call (oI f2) [] 13),oN,oN,oN,oN,oN,oN] [(7,.ra 2 0)] [(2,.box [.ra 2000 0]),(13,rI f2),(2000,.box [sI e6,.rs 13,.sl (List.map K06 out1.fkids),I out1.ffault,sI out1.fpath])] (ad (Ki1 _ _ e3) K6k (Ki1 _ _ e5) K6k (ad (Q71.args (A1 := [.sl (Q02 [AV.osl (List.map I [1]),sI e2,sI e4])]) (A2 := [.sl (List.map K11 [[1],e2,e4])]) (by simp only [List.map_cons,List.map_nil,K12,Qe5,share,Qf1,Q02]) (Kip _ _ e7)) K6q (xL e9) (xL f1) (cq (Khy _ _ f3) K6i tv))) ?_
       obtain rfl := os h
       exact Qcz.view (fun a w hv => SRx.renL [] (SRx.frzC 13 (xs := List.map I f2) (xs' := List.map I f2) hv (by kernel_rfl) (Qe5 _)) (by kernel_rfl) (by kernel_rfl) (by kernel_rfl))
      refine K7k hc 2 [(4,sL needs4),(5,sL used5),(6,.ra 1 0),(7,.ra 2 0),(9,.ra 3 0),(13,.fn 243 [.ra 2 0]),(20,I t3.fOp),(114,.bool (t3.fOp == 5))] ?_
      obtain ⟨fl,f4,h⟩ := Qdd h
      refine flw (Kjn c p0 out1 ctx2 t3 needs4 used5 fl) ?_ (fun hF => ?_)
      ·replace h := f4
       refine ic h (fun f5 h => ?_) fun f5 h => ?_
       ·refine sN ?_
        obtain ⟨f6,f7,f8,f9,h⟩ := bq2 h
        refine rss hc Kjt [oN,oN,some (.el (sI f6)),oN,oN,oN,oc (.bool f8),oN] [(4,sL needs4),(6,.ra 1 0),(7,.ra 2 0),(9,.ra 3 0),(13,.fn 243 [.ra 2 0]),(123,.bool (!f8))] (ai (xL f7) (cq (Kj5 _ _ f9) K6u tv)) ?_
        rcases is h with ⟨g0,h⟩ | ⟨g0,h⟩
        ·refine cF (!f8) (nF g0) ?_
         refine sk ?_
         refine vz 2002 (Qe5 out1.fneeds) [(4,sL needs4),(6,.ra 1 0),(7,.ra 2 0),(9,.ra 3 0),(13,.fn 243 [.ra 2 0]),(123,.bool (!f8))] [(1,K20 p0),(2,.box [.ra 2000 0]),(3,K1w t3),(2000,K1y out1)] ?_
         obtain ⟨g1,g2,g3,g4,g5,g6,g7,g8,h⟩ := bq4 h
         obtain ⟨g9,i0,h⟩ := Qdd h
         refine rg hc Kju [oN,oN,oN,some (.el (sI g1)),oN,oN,oN,oN,oN,some (.el (sI g3)),oN,some (.call (oI g5) [] 14),oN,some (.el (sI g7)),oN,some (.call (oI g9) [] 15),oN,oN,oN,oN,oN,oN] [(7,.ra 2 0)] [(2,.box [.ra 2000 0]),(15,rI g9),(2000,.box [sI g1,.rs 15,.sl (List.map K06 out1.fkids),I out1.ffault,sI out1.fpath])] (ac (Ki1 _ _ g2) K6k (xL g4) (cq (Kjc _ _ g6) K6w (ad (xL g8) (Q71.args (A1 := [K21 p0,.sl (Q02 (List.map I g5)),sI g7]) (A2 := [K21 p0,sI g5,sI g7]) (by simp only [List.map_nil,Qe5]) (Khy _ _ i0)) K6i (Or.inr (Qed Qe9 g9) : ([14] : List Nat) = [] ∨ noSh (oI g9) = true) tv))) ?_
         obtain rfl := os h
         exact Qcz.view (fun a w hv => SRx.renL [] (SRx.frzC 15 (xs := List.map I g9) (xs' := List.map I g9) hv (by kernel_rfl) (Qe5 _)) (by kernel_rfl) (by kernel_rfl) (by kernel_rfl))
        refine cT (!f8) (nT g0) ?_
        refine rs0 hc 1 [(12,I 9)] [(2000,.box [sI out1.fty,.rs 2002,.sl (List.map K06 out1.fkids),I out1.ffault,sI out1.fpath]),(2002,rI out1.fneeds)] ?_
        refine vz 2002 (Qe5 out1.fneeds) [(12,I 9)] [(2000,K1y out1)] ?_
        refine rt ?_
        obtain rfl := os h
        exact Qdb.ret (fl := [true]) (by kernel_rfl)
       refine K7k hc 2 [(4,sL needs4),(5,sL used5),(6,.ra 1 0),(7,.ra 2 0),(9,.ra 3 0),(13,.fn 243 [.ra 2 0]),(20,I t3.fOp),(144,.bool (t3.fOp == 6))] ?_
       obtain ⟨fl,i1,h⟩ := Qdd h
       refine flw (Kjm c p0 out1 ctx2 t3 needs4 used5 fl) ?_ (fun hF => ?_)
       ·replace h := i1
        refine ic h (fun i2 h => ?_) fun i2 h => ?_
        ·refine vz 2002 (Qe5 out1.fneeds) [(4,sL needs4),(5,sL used5),(6,.ra 1 0),(7,.ra 2 0),(9,.ra 3 0),(13,.fn 243 [.ra 2 0]),(20,I t3.fOp),(144,.bool (t3.fOp == 6))] [(1,K20 p0),(2,.box [.ra 2000 0]),(3,K1w t3),(2000,K1y out1)] ?_
         obtain ⟨i3,i4,i5,i6,i7,i8,h⟩ := bq3 h
         refine rg hc Kjv [oN,oN,some (.mk 17 true),oN,some (.el (sI i3)),oN,oN,some (.mk 18 true),some (.call (sI i5) [.tup []] 1),oN,some (.el (sI i7)),oN,oN,oN,oN,oN,oN,oN] [(7,.ra 2 0)] [(2,.box [.ra 2000 0]),(2000,.box [sI i5,sI i7,.sl (List.map K06 out1.fkids),I out1.ffault,sI out1.fpath])] (ad (Ki1 _ _ i4) K6k (Q71.args (A1 := [.sl (Q02 [AV.osl (List.map I [2]),sI i3,sI t3.fType])]) (A2 := [.sl (List.map K11 [[2],i3,t3.fType])]) (by simp only [List.map_cons,List.map_nil,K12,Qe5,share,Qf1,Q02]) (Kip _ _ i6)) K6q (ai (xL i8) tv)) ?_
         obtain rfl := os h
         exact Qcz.mk
        refine K7k hc 2 [(4,sL needs4),(5,sL used5),(6,.ra 1 0),(7,.ra 2 0),(9,.ra 3 0),(13,.fn 243 [.ra 2 0]),(20,I t3.fOp),(162,.bool (t3.fOp == 7))] ?_
        obtain ⟨fl,i9,h⟩ := Qdd h
        refine flw (Kjl c p0 out1 ctx2 t3 needs4 used5 fl) ?_ (fun hF => ?_)
        ·replace h := i9
         refine ic h (fun j0 h => ?_) fun j0 h => ?_
         ·refine vz 2002 (Qe5 out1.fneeds) [(4,sL needs4),(5,sL used5),(6,.ra 1 0),(7,.ra 2 0),(9,.ra 3 0),(13,.fn 243 [.ra 2 0]),(20,I t3.fOp),(162,.bool (t3.fOp == 7))] [(1,K20 p0),(2,.box [.ra 2000 0]),(3,K1w t3),(2000,K1y out1)] ?_
          obtain ⟨j8,j9,k0,k1,k2,k3,h⟩ := bq3 h
          refine rg hc Kjv [oN,oN,some (.mk 20 true),oN,oN,oN,some (.el (sI j8)),some (.mk 21 true),some (.call (sI k0) [.tup []] 1),oN,some (.el (sI k2)),oN,oN,oN,oN,oN,oN,oN] [(7,.ra 2 0)] [(2,.box [.ra 2000 0]),(2000,.box [sI k0,sI k2,.sl (List.map K06 out1.fkids),I out1.ffault,sI out1.fpath])] (ad (Ki1 _ _ j9) K6k (Q71.args (A1 := [.sl (Q02 [AV.osl (List.map I [2]),sI t3.fType,sI j8])]) (A2 := [.sl (List.map K11 [[2],t3.fType,j8])]) (by simp only [List.map_cons,List.map_nil,K12,Qe5,share,Qf1,Q02]) (Kip _ _ k1)) K6q (ai (xL k3) tv)) ?_
          obtain rfl := os h
          exact Qcz.mk
         refine K7k hc 2 [(4,sL needs4),(5,sL used5),(6,.ra 1 0),(7,.ra 2 0),(9,.ra 3 0),(13,.fn 243 [.ra 2 0]),(20,I t3.fOp),(180,.bool (t3.fOp == 8))] ?_
         obtain ⟨fl,k4,h⟩ := Qdd h
         refine flw (Kjk c p0 out1 ctx2 t3 needs4 used5 fl) ?_ (fun hF => ?_)
         ·replace h := k4
          refine ic h (fun k5 h => ?_) fun k5 h => ?_
          ·refine sN ?_
           refine sN ?_
           refine vz 2002 (Qe5 out1.fneeds) [(4,sL needs4),(5,sL used5),(6,.ra 1 0),(7,.ra 2 0),(9,.ra 3 0),(13,.fn 243 [.ra 2 0]),(20,I t3.fOp),(180,.bool (t3.fOp == 8))] [(1,K20 p0),(2,.box [.ra 2000 0]),(3,K1w t3),(2000,K1y out1)] ?_
           obtain ⟨k6,k7,k8,k9,l0,l1,h⟩ := bq3 h
           refine rgs hc none [oN,some (.el (sI k6)),oN,some (.el (sI k8)),oc (.bool l0),oN] [(4,sL needs4),(5,sL used5),(6,.ra 1 0),(7,.ra 2 0),(9,.ra 3 0),(13,.fn 243 [.ra 2 0]),(187,.bool (!l0))] (ad (Ki1 _ _ k7) K6k (Ki1 _ _ k9) K6k (cq (Kfl _ _ l1) K5h tv)) ?_
           rcases is h with ⟨l2,h⟩ | ⟨l2,h⟩
           ·refine cF (!l0) (nF l2) ?_
            refine sk ?_
            refine sN ?_
            refine sN ?_
            obtain ⟨l3,l4,h⟩ := Qdd h
            refine Wp.into (x := .normal) (mkS [(4,sL needs4),(6,.ra 1 0),(7,.ra 2 0),(9,.ra 3 0),(13,.fn 243 [.ra 2 0]),(205,.bool l3)] [(1,K20 p0),(2,.box [.ra 2000 0]),(3,K1w t3),(2000,K1y out1)]) ?_ ?_
            ·replace h := l4
             obtain ⟨l5,l6,l7,l8,h⟩ := bq2 h
             rcases is h with ⟨l9,h⟩ | ⟨l9,h⟩
             ·obtain ⟨m0,m1,m2,m3,h⟩ := bq2 h
              refine rgs hc Kjw [oN,oN,some (.el (sI l5)),oN,oN,oN,oc (.bool l7),oN,oN,oN,oN,some (.el (sI m0)),oN,oN,oN,oc (.bool m2),oN,oF] [(4,sL needs4),(6,.ra 1 0),(7,.ra 2 0),(9,.ra 3 0),(13,.fn 243 [.ra 2 0]),(205,.bool (!m2))] (ai (xL l6) (cq (Kj5 _ _ l8) K6u (ar 3 (nF l9) (ai (xL m1) (ar 4 (nF l9) (cq (Kj5 _ _ m3) K6u (ar 2 (nF l9) tv))))))) ?_
              obtain rfl := os h
              exact Qcz.mk
             refine rgs hc Kjw [oN,oN,some (.el (sI l5)),oN,oN,oN,oc (.bool l7),oN,oN,o_,o_,o_,o_,o_,o_,o_,o_,oT] [(4,sL needs4),(6,.ra 1 0),(7,.ra 2 0),(9,.ra 3 0),(13,.fn 243 [.ra 2 0]),(205,.bool true)] (ai (xL l6) (cq (Kj5 _ _ l8) K6u (ar 8 (neF (nT l9)) (ai (nT l9) tv)))) ?_
             obtain rfl := os h
             exact Qcz.mk
            clear l4
            refine ic h (fun m4 h => ?_) fun m4 h => ?_
            ·refine rs0 hc 1 [(12,I 9)] [(2000,K1y out1)] ?_
             refine rt ?_
             obtain rfl := os h
             exact Qdb.ret (fl := [true]) (by kernel_rfl)
            refine sk ?_
            obtain ⟨m5,m6,m7,m8,m9,n0,n1,n2,h⟩ := bq4 h
            obtain ⟨n3,n4,n5,n6,n7,n8,h⟩ := bq3 h
            refine rg hc (rx [[0],[0],[0],[0,2],[0],[0],[0],[0,6],[0],[0,8],[0,8,9],[0,2,3,5,6,7,8,9,10],[0],[0],[0,13],[0,13,14],[0],[0,16],[0,16,17],[0,2,3,5,6,7,8,9,10,11,12,13,14,15,16,17,18],[0,2,3,4,5,6,7,8,9,10,11,12,13,14,15,16,17,18,19],[1,2,3,4,5,6,7,8,9,10,11,12,13,14,15,16,17,18,19,20],[1,2,3,4,5,6,7,8,9,10,11,12,13,14,15,16,17,18,19,20,21],[1,2,3,4,5,6,7,8,9,10,11,12,13,14,15,16,17,18,19,20,21,22],[24],[25],[26]]) [oN,oN,oN,some (.el (sI m5)),oN,oN,oN,oN,oN,some (.el (sI m7)),oN,some (.call (oI m9) [] 22),oN,oN,some (.el (sI n1)),oN,oN,some (.el (sI n3)),oN,some (.call (oI n5) [] 23),some (.call (oI n7) [] 24),oN,oN,oN,oN,oN,oN] [(7,.ra 2 0)] [(2,.box [.ra 2000 0]),(24,rI n7),(2000,.box [sI m5,.rs 24,.sl (List.map K06 out1.fkids),I out1.ffault,sI out1.fpath])] (ac (Ki1 _ _ m6) K6k (xL m8) (cq (Kjc _ _ n0) K6w (ab (xL n2) (xL n4) (cq (Kib _ _ n6) K6m (ac (Q71.args (A1 := [K21 p0,.sl (Q02 (List.map I m9)),.sl (Q02 (List.map I n5))]) (A2 := [K21 p0,sI m9,sI n5]) (by simp only [List.map_nil,Qe5]) (Khy _ _ n8)) K6i (Or.inr (Qed Qe9 n7) : ([22,23] : List Nat) = [] ∨ noSh (oI n7) = true) tv))))) ?_
            obtain rfl := os h
            exact Qcz.view (fun a w hv => SRx.renL [] (SRx.frzC 24 (xs := List.map I n7) (xs' := List.map I n7) hv (by kernel_rfl) (Qe5 _)) (by kernel_rfl) (by kernel_rfl) (by kernel_rfl))
           refine cT (!l0) (nT l2) ?_
           refine rs0 hc 1 [(12,I 3)] [(2000,K1y out1)] ?_
           refine rt ?_
           obtain rfl := os h
           exact Qdb.ret (fl := [true]) (by kernel_rfl)
          refine K7k hc 2 [(4,sL needs4),(5,sL used5),(6,.ra 1 0),(7,.ra 2 0),(9,.ra 3 0),(13,.fn 243 [.ra 2 0]),(20,I t3.fOp),(231,.bool (t3.fOp == 9))] ?_
          obtain ⟨fl,n9,h⟩ := Qdd h
          refine flw (Kjj c p0 out1 ctx2 t3 needs4 used5 fl) ?_ (fun hF => ?_)
          ·replace h := n9
           refine ic h (fun o0 h => ?_) fun o0 h => ?_
           ·refine sN ?_
            obtain ⟨o1,o2,o3,o4,h⟩ := bq2 h
            refine rs hc Kjt [oN,oN,some (.el (sI o1)),oN,oN,oN,oc (.bool o3),oN] [(4,sL needs4),(7,.ra 2 0),(9,.ra 3 0),(13,.fn 243 [.ra 2 0]),(240,.bool (!o3))] [(2,.box [.ra 2000 0]),(3,K1w t3),(2000,.box [sI out1.fty,.rs 2002,.sl (List.map K06 out1.fkids),I out1.ffault,sI out1.fpath]),(2002,rI out1.fneeds)] (ai (xL o2) (cq (Kj5 _ _ o4) K6u tv)) ?_
            rcases is h with ⟨o5,h⟩ | ⟨o5,h⟩
            ·refine cF (!o3) (nF o5) ?_
             refine sk ?_
             refine vz 2002 (Qe5 out1.fneeds) [(4,sL needs4),(7,.ra 2 0),(9,.ra 3 0),(13,.fn 243 [.ra 2 0]),(240,.bool (!o3))] [(2,.box [.ra 2000 0]),(3,K1w t3),(2000,K1y out1)] ?_
             obtain ⟨o6,o7,o8,o9,p1,p2,h⟩ := bq3 h
             refine rg hc (rx [[0],[0],[0],[0,2],[0,2,3],[0,2,3,4],[0],[0,6],[0],[0,8],[0,2,3,4,5,6,7,8,9],[0,2,3,4,5,6,7,8,9,10],[0],[0,12],[0,12,13],[1,2,3,4,5,6,7,8,9,10,11,12,13,14],[1,2,3,4,5,6,7,8,9,10,11,12,13,14,15],[1,2,3,4,5,6,7,8,9,10,11,12,13,14,15,16],[18],[19],[20]]) [oN,oN,oN,oN,oN,some (.mk 26 true),oN,oN,oN,some (.el (sI o6)),some (.mk 27 true),some (.call (sI o8) [.tup []] 1),oN,some (.el (sI p1)),oN,oN,oN,oN,oN,oN,oN] [(7,.ra 2 0)] [(2,.box [.ra 2000 0]),(2000,.box [sI o8,sI p1,.sl (List.map K06 out1.fkids),I out1.ffault,sI out1.fpath])] (ad (Ki1 _ _ o7) K6k (Q71.args (A1 := [.sl (Q02 [AV.osl (List.map I [(wr (3 + t3.fN))]),sI t3.fType,sI o6])]) (A2 := [.sl (List.map K11 [[(wr (3 + t3.fN))],t3.fType,o6])]) (by simp only [List.map_cons,List.map_nil,K12,Qe5,share,Qf1,Q02]) (Kip _ _ o9)) K6q (ai (xL p2) tv)) ?_
             obtain rfl := os h
             exact Qcz.mk
            refine cT (!o3) (nT o5) ?_
            refine rs0 hc 1 [(12,I 9)] [(2000,.box [sI out1.fty,.rs 2002,.sl (List.map K06 out1.fkids),I out1.ffault,sI out1.fpath]),(2002,rI out1.fneeds)] ?_
            refine vz 2002 (Qe5 out1.fneeds) [(12,I 9)] [(2000,K1y out1)] ?_
            refine rt ?_
            obtain rfl := os h
            exact Qdb.ret (fl := [true]) (by kernel_rfl)
           refine K7k hc 2 [(4,sL needs4),(5,sL used5),(6,.ra 1 0),(7,.ra 2 0),(9,.ra 3 0),(13,.fn 243 [.ra 2 0]),(20,I t3.fOp),(260,.bool (t3.fOp == 10))] ?_
           obtain ⟨fl,p3,h⟩ := Qdd h
           refine flw (Kji c p0 out1 ctx2 t3 needs4 used5 fl) ?_ (fun hF => ?_)
           ·replace h := p3
            refine ic h (fun p4 h => ?_) fun p4 h => ?_
            ·refine sN ?_
             refine vz 2002 (Qe5 out1.fneeds) [(4,sL needs4),(5,sL used5),(6,.ra 1 0),(7,.ra 2 0),(9,.ra 3 0),(13,.fn 243 [.ra 2 0]),(20,I t3.fOp),(260,.bool (t3.fOp == 10))] [(1,K20 p0),(2,.box [.ra 2000 0]),(3,K1w t3),(2000,K1y out1)] ?_
             obtain ⟨p5,p6,p7,p8,⟨p9,q0⟩,q1,h⟩ := bq3 h
             refine rg hc none [oN,some (.el (sI p5)),some (.el (I p7)),oN,oc (.tup [I p9,I q0]),oN,oN,oN,oN,oN] [(4,sL needs4),(6,.ra 1 0),(7,.ra 2 0),(13,.fn 243 [.ra 2 0]),(15,I q0)] [(1,K20 p0),(2,.box [.ra 2000 0]),(2000,K1y out1)] (ac (Ki1 _ _ p6) K6k (ix p8) (cq (Kcf _ _ q1) K4j tv)) ?_
             obtain ⟨q2,q3,q4,q5,q6,q7,q8,q9,h⟩ := bq4 h
             obtain ⟨r0,r1,r2,r3,r4,r5,h⟩ := bq3 h
             refine rg hc (rx [[0],[0],[0],[0,2],[0,2,3],[0,2,3,4],[0,2,3,4,5],[0],[0],[0,8],[0,8,9],[0],[0],[0],[0,13],[0,13,14],[0,2,3,4,11,12,13,14,15],[0,2,3,4,7,8,9,10,11,12,13,14,15,16],[1,2,3,4,5,6,7,8,9,10,11,12,13,14,15,16,17],[1,2,3,4,5,6,7,8,9,10,11,12,13,14,15,16,17,18],[1,2,3,4,5,6,7,8,9,10,11,12,13,14,15,16,17,18,19],[21],[22],[23]]) [oN,oN,oN,some (.el (sI q2)),some (.call (.osl (List.map K11 q4)) [] 28),oN,some (.el (sI q6)),oN,oN,some (.el (sI q8)),oN,oN,oN,oN,some (.el (sI r0)),oN,some (.call (oI r2) [] 29),some (.call (oI r4) [] 30),oN,oN,oN,oN,oN,oN] [(7,.ra 2 0)] [(2,.box [.ra 2000 0]),(30,rI r4),(2000,.box [sI q6,.rs 30,.sl (List.map K06 out1.fkids),I out1.ffault,sI out1.fpath])] (ab (Ki1 _ _ q3) K6k (cq (Kei _ _ q5) K53 (ad (Qdi (enc := K11) q7) (xL q7).2 (xL q9) (xL r1) (cq (Kjc _ _ r3) K6w (ac (Q71.args (A1 := [K21 p0,sI q8,.sl (Q02 (List.map I r2))]) (A2 := [K21 p0,sI q8,sI r2]) (by simp only [List.map_nil,Qe5]) (Khy _ _ r5)) K6i (Or.inr (Qed Qe9 r4) : ([29] : List Nat) = [] ∨ noSh (oI r4) = true) tv))))) ?_
             obtain rfl := os h
             exact Qcz.mk
            refine K7k hc 2 [(4,sL needs4),(5,sL used5),(6,.ra 1 0),(7,.ra 2 0),(9,.ra 3 0),(13,.fn 243 [.ra 2 0]),(20,I t3.fOp),(292,.bool (t3.fOp == 11))] ?_
            obtain ⟨fl,r6,h⟩ := Qdd h
            refine flw (Kjh c p0 out1 ctx2 t3 needs4 used5 fl) ?_ (fun hF => ?_)
            ·replace h := r6
             refine ic h (fun r7 h => ?_) fun r7 h => ?_
             ·refine vz 2002 (Qe5 out1.fneeds) [(4,sL needs4),(5,sL used5),(6,.ra 1 0),(7,.ra 2 0),(9,.ra 3 0),(13,.fn 243 [.ra 2 0]),(20,I t3.fOp),(292,.bool (t3.fOp == 11))] [(1,K20 p0),(2,.box [.ra 2000 0]),(3,K1w t3),(2000,K1y out1)] ?_
              obtain ⟨r8,r9,s0,s1,s2,s3,s4,s5,h⟩ := bq4 h
              refine rg hc (rx [[0],[0],[0],[0,2],[0,2,3],[0,2,3,4],[0],[0,6],[0,2,3,4,5,6,7],[0,2,3,4,5,6,7,8],[0],[0],[0,11],[0],[0,13],[0,13,14],[0,2,3,4,5,6,7,8,9,10,11,12,13,14,15],[1,2,3,4,5,6,7,8,9,10,11,12,13,14,15,16],[1,2,3,4,5,6,7,8,9,10,11,12,13,14,15,16,17],[1,2,3,4,5,6,7,8,9,10,11,12,13,14,15,16,17,18],[20],[21],[22]]) [oN,oN,oN,oN,oN,some (.mk 32 true),oN,some (.el (sI r8)),some (.mk 33 true),some (.call (sI s0) [.tup []] 1),oN,oN,oN,oN,some (.el (sI s2)),oN,some (.call (oI s4) [] 34),oN,oN,oN,oN,oN,oN] [(7,.ra 2 0)] [(2,.box [.ra 2000 0]),(34,rI s4),(2000,.box [sI s0,.rs 34,.sl (List.map K06 out1.fkids),I out1.ffault,sI out1.fpath])] (ad (Ki1 _ _ r9) K6k (Q71.args (A1 := [.sl (Q02 [AV.osl (List.map I [(wr (19 + t3.fN))]),sI r8])]) (A2 := [.sl (List.map K11 [[(wr (19 + t3.fN))],r8])]) (by simp only [List.map_cons,List.map_nil,K12,Qe5,share,Qf1,Q02]) (Kip _ _ s1)) K6q (ai (xL s3) (cq (Kjc _ _ s5) K6w tv))) ?_
              obtain rfl := os h
              exact Qcz.mk
             refine K7k hc 2 [(4,sL needs4),(5,sL used5),(6,.ra 1 0),(7,.ra 2 0),(9,.ra 3 0),(13,.fn 243 [.ra 2 0]),(315,.bool (t3.fOp == 12))] ?_
             obtain ⟨fl,s6,h⟩ := Qdd h
             refine flw (Kjg c p0 out1 ctx2 t3 needs4 used5 fl) ?_ (fun hF => ?_)
             ·replace h := s6
              refine ic h (fun s7 h => ?_) fun s7 h => ?_
              ·refine sN ?_
               refine vz 2002 (Qe5 out1.fneeds) [(4,sL needs4),(5,sL used5),(6,.ra 1 0),(7,.ra 2 0),(9,.ra 3 0),(13,.fn 243 [.ra 2 0]),(315,.bool (t3.fOp == 12))] [(1,K20 p0),(2,.box [.ra 2000 0]),(3,K1w t3),(2000,K1y out1)] ?_
               obtain ⟨s8,s9,t0,t1,⟨t2,t4⟩,t5,h⟩ := bq3 h
               refine rgs hc none [oN,some (.el (sI s8)),some (.el (I t0)),oN,oc (.tup [I t2,I t4]),oN,oN,oN,oN,oN] [(4,sL needs4),(5,sL used5),(6,.ra 1 0),(7,.ra 2 0),(9,.ra 3 0),(13,.fn 243 [.ra 2 0]),(17,I t4)] (ac (Ki1 _ _ s9) K6k (ix t1) (cq (Kcf _ _ t5) K4j tv)) ?_
               refine sN ?_
               obtain ⟨t6,t7,t8,t9,u0,u1,h⟩ := bq3 h
               refine rss hc (rx [[0],[0],[0,1],[0,1,2],[0],[0,4],[0],[0,6],[0],[0,4,5,6,7,8],[10],[11]]) [oN,oN,some (.el (sI t6)),oN,oN,oN,oN,oN,oN,oc (I t8),oc (.bool u0),oN] [(4,sL needs4),(6,.ra 1 0),(7,.ra 2 0),(9,.ra 3 0),(13,.fn 243 [.ra 2 0]),(336,.bool (!u0))] (ai (xL t7) (cq (Kd5 _ _ t9) K4u (cq (Kj5 _ _ u1) K6u tv))) ?_
               rcases is h with ⟨u2,h⟩ | ⟨u2,h⟩
               ·refine cF (!u0) (nF u2) ?_
                refine sk ?_
                obtain ⟨u3,u4,u5,u6,u7,u8,u9,v0,h⟩ := bq4 h
                obtain ⟨v1,v2,h⟩ := Qdd h
                refine rg hc Kju [oN,oN,oN,some (.el (sI u3)),oN,oN,oN,oN,oN,some (.el (sI u5)),oN,some (.call (oI u7) [] 35),oN,some (.el (sI u9)),oN,some (.call (oI v1) [] 36),oN,oN,oN,oN,oN,oN] [(7,.ra 2 0)] [(2,.box [.ra 2000 0]),(36,rI v1),(2000,.box [sI u3,.rs 36,.sl (List.map K06 out1.fkids),I out1.ffault,sI out1.fpath])] (ac (Ki1 _ _ u4) K6k (xL u6) (cq (Kjc _ _ u8) K6w (ad (xL v0) (Q71.args (A1 := [K21 p0,.sl (Q02 (List.map I u7)),sI u9]) (A2 := [K21 p0,sI u7,sI u9]) (by simp only [List.map_nil,Qe5]) (Khy _ _ v2)) K6i (Or.inr (Qed Qe9 v1) : ([35] : List Nat) = [] ∨ noSh (oI v1) = true) tv))) ?_
                obtain rfl := os h
                exact Qcz.mk
               refine cT (!u0) (nT u2) ?_
               refine rs0 hc 1 [(12,I 9)] [(2000,K1y out1)] ?_
               refine rt ?_
               obtain rfl := os h
               exact Qdb.ret (fl := [true]) (by kernel_rfl)
              refine sk ?_
              obtain rfl := os h
              exact iv [(36,2002)]
             rcases fl with ⟨v3,v4⟩ | r
             ·refine Wp.into (x := .normal) (mkS [(7,.ra 2 0)] [(2,.box [.ra 2000 0]),(36,rI v4),(2000,.box [sI v3,.rs 36,.sl (List.map K06 out1.fkids),I out1.ffault,sI out1.fpath])]) hF ?_
              obtain rfl := os h
              exact iv [(34,36)]
             refine Wp.mono hF ?_
             rintro _ _ ⟨rfl,hfin⟩
             obtain rfl := os h
             exact ⟨rfl,hfin⟩
            rcases fl with ⟨v5,v6⟩ | r
            ·refine Wp.into (x := .normal) (mkS [(7,.ra 2 0)] [(2,.box [.ra 2000 0]),(34,rI v6),(2000,.box [sI v5,.rs 34,.sl (List.map K06 out1.fkids),I out1.ffault,sI out1.fpath])]) hF ?_
             obtain rfl := os h
             exact iv [(30,34)]
            refine Wp.mono hF ?_
            rintro _ _ ⟨rfl,hfin⟩
            obtain rfl := os h
            exact ⟨rfl,hfin⟩
           rcases fl with ⟨v7,v8⟩ | r
           ·refine Wp.into (x := .normal) (mkS [(7,.ra 2 0)] [(2,.box [.ra 2000 0]),(30,rI v8),(2000,.box [sI v7,.rs 30,.sl (List.map K06 out1.fkids),I out1.ffault,sI out1.fpath])]) hF ?_
            obtain rfl := os h
            exact Qcz.view (fun a w hv => SRx.renL [] (SRx.frzC 30 (xs := List.map I v8) (xs' := List.map I v8) hv (by kernel_rfl) (Qe5 _)) (by kernel_rfl) (by kernel_rfl) (by kernel_rfl))
           refine Wp.mono hF ?_
           rintro _ _ ⟨rfl,hfin⟩
           obtain rfl := os h
           exact ⟨rfl,hfin⟩
          rcases fl with ⟨v9,w0⟩ | r
          ·refine Wp.into (x := .normal) (mkS [(7,.ra 2 0)] [(2,.box [.ra 2000 0]),(2000,.box [sI v9,sI w0,.sl (List.map K06 out1.fkids),I out1.ffault,sI out1.fpath])]) hF ?_
           obtain rfl := os h
           exact Qcz.mk
          refine Wp.mono hF ?_
          rintro _ _ ⟨rfl,hfin⟩
          obtain rfl := os h
          exact ⟨rfl,hfin⟩
         rcases fl with ⟨w1,w2⟩ | r
         ·refine Wp.into (x := .normal) (mkS [(7,.ra 2 0)] [(2,.box [.ra 2000 0]),(2000,.box [sI w1,sI w2,.sl (List.map K06 out1.fkids),I out1.ffault,sI out1.fpath])]) hF ?_
          obtain rfl := os h
          exact Qcz.mk
         refine Wp.mono hF ?_
         rintro _ _ ⟨rfl,hfin⟩
         obtain rfl := os h
         exact ⟨rfl,hfin⟩
        rcases fl with ⟨w3,w4⟩ | r
        ·refine Wp.into (x := .normal) (mkS [(7,.ra 2 0)] [(2,.box [.ra 2000 0]),(2000,.box [sI w3,sI w4,.sl (List.map K06 out1.fkids),I out1.ffault,sI out1.fpath])]) hF ?_
         obtain rfl := os h
         exact Qcz.mk
        refine Wp.mono hF ?_
        rintro _ _ ⟨rfl,hfin⟩
        obtain rfl := os h
        exact ⟨rfl,hfin⟩
       rcases fl with ⟨w5,w6⟩ | r
       ·refine Wp.into (x := .normal) (mkS [(7,.ra 2 0)] [(2,.box [.ra 2000 0]),(2000,.box [sI w5,sI w6,.sl (List.map K06 out1.fkids),I out1.ffault,sI out1.fpath])]) hF ?_
        obtain rfl := os h
        exact Qcz.mk
       refine Wp.mono hF ?_
       rintro _ _ ⟨rfl,hfin⟩
       obtain rfl := os h
       exact ⟨rfl,hfin⟩
      rcases fl with ⟨w7,w8⟩ | r
      ·refine Wp.into (x := .normal) (mkS [(7,.ra 2 0)] [(2,.box [.ra 2000 0]),(2000,.box [sI w7,sI w8,.sl (List.map K06 out1.fkids),I out1.ffault,sI out1.fpath])]) hF ?_
       obtain rfl := os h
       exact Qcz.mk
      refine Wp.mono hF ?_
      rintro _ _ ⟨rfl,hfin⟩
      obtain rfl := os h
      exact ⟨rfl,hfin⟩
     rcases fl with ⟨w9,x0⟩ | r
     ·refine Wp.into (x := .normal) (mkS [(7,.ra 2 0)] [(2,.box [.ra 2000 0]),(2000,.box [sI w9,sI x0,.sl (List.map K06 out1.fkids),I out1.ffault,sI out1.fpath])]) hF ?_
      obtain rfl := os h
      exact Qcz.mk
     refine Wp.mono hF ?_
     rintro _ _ ⟨rfl,hfin⟩
     obtain rfl := os h
     exact ⟨rfl,hfin⟩
    rcases fl with ⟨x1,x2⟩ | r
    ·refine Wp.into (x := .normal) (mkS [(7,.ra 2 0)] [(2,.box [.ra 2000 0]),(2000,.box [sI x1,sI x2,.sl (List.map K06 out1.fkids),I out1.ffault,sI out1.fpath])]) hF ?_
     obtain rfl := os h
     exact Qcz.mk
    refine Wp.mono hF ?_
    rintro _ _ ⟨rfl,hfin⟩
    obtain rfl := os h
    exact ⟨rfl,hfin⟩
   rcases fl with ⟨x3,x4⟩ | r
   ·refine Wp.into (x := .normal) (mkS [(7,.ra 2 0)] [(2,.box [.ra 2000 0]),(2000,.box [sI x3,sI x4,.sl (List.map K06 out1.fkids),I out1.ffault,sI out1.fpath])]) hF ?_
    obtain rfl := os h
    exact Qcz.mk
   refine Wp.mono hF ?_
   rintro _ _ ⟨rfl,hfin⟩
   obtain rfl := os h
   exact ⟨rfl,hfin⟩
  rcases fl with ⟨x5,x6⟩ | r
  ·refine Wp.into (x := .normal) (mkS [(7,.ra 2 0)] [(2,.box [.ra 2000 0]),(2000,.box [sI x5,sI x6,.sl (List.map K06 out1.fkids),I out1.ffault,sI out1.fpath])]) hF ?_
   obtain rfl := os h
   exact Qcz.mk
  refine Wp.mono hF ?_
  rintro _ _ ⟨rfl,hfin⟩
  obtain rfl := os h
  exact ⟨rfl,hfin⟩
 rcases fl with ⟨x7,x8⟩ | r
 ·refine Wp.into (x := .normal) (mkS [(7,.ra 2 0)] [(2,.box [.ra 2000 0]),(2000,.box [sI x7,sI x8,.sl (List.map K06 out1.fkids),I out1.ffault,sI out1.fpath])]) hF ?_
  refine sN ?_
  obtain ⟨x9,y0,h⟩ := Qdd h
  refine rs hc none [oN,oN,oN,oN,oc (.bool x9)] [(361,.bool x9)] [(2000,.box [sI x7,sI x8,.sl (List.map K06 out1.fkids),I out1.ffault,sI out1.fpath])] (cq (Kjf _ _ y0) K6y tv) ?_
  refine ic h (fun y1 h => ?_) fun y1 h => ?_
  ·refine K7k hc 1 [(12,I 3)] ?_
   refine rt ?_
   obtain rfl := os h
   exact Qda.ret (fl := [true]) (by kernel_rfl)
  refine sk ?_
  refine K7k hc 1 [(12,I 0)] ?_
  refine rt ?_
  obtain rfl := os h
  exact Qda.ret (fl := [true]) (by kernel_rfl)
 refine Wp.mono hF ?_
 rintro _ _ ⟨rfl,hfin⟩
 obtain rfl := os h
 exact ⟨.inl rfl,hfin⟩
def Kk0 (c : Ctx) (p0 : K05) (ctx1 : LL) (t2 : K02) : ((List K03) × LL × LL) ⊕ (K03) → Exit → Q0a → Prop
 | .inl (a0,a1,a2) => Qcz c (.exit 0) (mkS [(1,sL ctx1),(3,.ra 1 0),(5,.ra 2 0),(7,.ra 4 0),(8,.rs 21),(9,.rs 22)] [(1,K20 p0),(2,K1w t2),(3,.arr (List.map I (List.replicate (Int.toNat (ctx1.length : Int)) 0))),(4,.box [.nils,.rs 3,.rs 20,I 0,.nils]),(20,.arr (List.map K06 a0)),(21,.arr (List.map K11 a1)),(22,.arr (List.map K11 a2))])
 | .inr r => Qd8 TIx Tryz.f173 [] (.ptr [sI r.fty,sI r.fneeds,.sl (List.map K06 r.fkids),I r.ffault,sI r.fpath] 0)
def Kk1 : Option (List (List Nat)) := rx [[0],[1],[2],[3],[4],[5],[6],[7],[8],[9],[10],[11],[8],[8,12],[8,12,13],[8,12,13,14],[8,12,13,14,15],[8,12,13,14,15,16],[8,12,13,14,15,16,17],[8,12,13,14,15,16,17,18],[8,12,13,14,15,16,17,18,19],[8,12,13,14,15,16,17,18,19,20],[8,12,13,14,15,16,17,18,19,20,21],[8,12,13,14,15,16,17,18,19,20,21,22],[24],[25],[26]]
mutual
def Kk2 (p : K05 × LL × K02) : Option (K03) :=
 match p with
 | (p0,ctx1,t2) =>
  (chk (0 ≤ (ctx1.length : Int) ∧ (Int.toNat (ctx1.length : Int)) * 8 ≤ 140737488355328)) >>= fun _ =>
  (Kk3 (p0,ctx1,t2,[],[],[],0)) >>= fun fl => match fl with
  | .inl (a0,a1,a2) =>
   (Kjx (p0,(K03.mk [] (List.replicate (Int.toNat (ctx1.length : Int)) 0) a0 0 []),ctx1,t2,a1,a2)) >>= fun (a3,a4) =>
   if (a3 != 0) = true then
   some (K03.mk [] [] [] a3 [])
   else
   some (K03.mk a4.fty a4.fneeds a4.fkids a3 a4.fpath)
  | .inr r =>
   some r
 partial_fixpoint
def Kk3 (p : K05 × LL × K02 × (List K03) × LL × LL × Int) : Option (((List K03) × LL × LL) ⊕ (K03)) :=
 match p with
 | (p0,ctx1,t2,a0,a1,a2,a3) =>
  if (decide (a3 < (t2.fKids.length : Int))) = true then
  (idx t2.fKids a3) >>= fun a4 =>
  ((
  if (decide (a3 > 0)) = true then
  some (true)
  else
  some ((t2.fOp == 9))
  ) : Option (Bool)) >>= fun a5 =>
  ((
  if a5 = true then
  ((
  if (decide (a3 > 0)) = true then
  (idx a0 0) >>= fun a6 =>
  some (a6.fty)
  else
  some ([])
  ) : Option ((List Int))) >>= fun a7 =>
  (Kh4 (t2,a3,a7)) >>= fun a8 =>
  some (a8)
  else
  some ([])
  ) : Option (LL)) >>= fun a9 =>
  (Khi [a9,ctx1]) >>= fun b1 =>
  (Kk2 (p0,b1,a4)) >>= fun b2 =>
  if (b2.ffault != 0) = true then
  (Qdq ([a3].length + b2.fpath.length) 8) >>= fun _ =>
  some (.inr (K03.mk [] [] [] b2.ffault ([a3] ++ b2.fpath)))
  else
  (Khm (p0,t2,a3,b2.fty)) >>= fun b3 =>
  if (b3 != 0) = true then
  some (.inr (K03.mk [] [] [] b3 []))
  else
  ((
  if (t2.fOp == 10) = true then
  if (a3 == 1) = true then
  (idx a0 0) >>= fun b4 =>
  (Keg b4.fty) >>= fun b5 =>
  (idx b5 0) >>= fun b6 =>
  (Kfj (b2.fty,b6)) >>= fun b7 =>
  some ((!b7))
  else
  some (false)
  else
  some (false)
  ) : Option (Bool)) >>= fun b8 =>
  if b8 = true then
  some (.inr (K03.mk [] [] [] 3 []))
  else
  (Qdq (a0.length + [b2].length) 8) >>= fun _ =>
  (cut b2.fneeds none (some (a9.length : Int)) none) >>= fun b9 =>
  (Qdq (a2.length + [b9].length) 24) >>= fun _ =>
  (cut b2.fneeds (some (a9.length : Int)) none none) >>= fun c0 =>
  (Qdq (a1.length + [c0].length) 24) >>= fun _ =>
  Kk3 (p0,ctx1,t2,(a0 ++ [b2]),(a1 ++ [c0]),(a2 ++ [b9]),(wr (a3 + 1)))
  else
  some (.inl (a0,a1,a2))
 partial_fixpoint
end
def Kk4 (p : K05 × LL × K02) (r : K03) : Prop :=
 match p with
 | (p0,ctx1,t2) => Q71 Tryz.prog 173 [K21 p0,sL ctx1,K1x t2] (.ptr [sI r.fty,sI r.fneeds,.sl (List.map K06 r.fkids),I r.ffault,sI r.fpath] 0) []
def Kk5 (p : K05 × LL × K02 × (List K03) × LL × LL × Int) (fl : ((List K03) × LL × LL) ⊕ (K03)) : Prop :=
 match p with
 | (p0,ctx1,t2,a0,a1,a2,a3) => ∀ c : Ctx,c.nt = 171 → WpL Tryz.prog c (cl (cl (cr (cl (cr (cr (cr (cr K6b)))))))) (Kk0 c p0 ctx1 t2 fl) (mkS [(1,sL ctx1),(3,.ra 1 0),(5,.ra 2 0),(7,.ra 4 0),(8,.rs 21),(9,.rs 22),(22,.sl (List.map K0i t2.fKids)),(23,I (t2.fKids.length : Int)),(24,I a3)] [(1,K20 p0),(2,K1w t2),(3,.arr (List.map I (List.replicate (Int.toNat (ctx1.length : Int)) 0))),(4,.box [.nils,.rs 3,.rs 20,I 0,.nils]),(20,.arr (List.map K06 a0)),(21,.arr (List.map K11 a1)),(22,.arr (List.map K11 a2))])
theorem Kk6 : (∀ p r,Kk2 p = some r → Kk4 p r) ∧ (∀ p r,Kk3 p = some r → Kk5 p r) := by
 refine Kk2.mutual_partial_correctness Kk4 Kk5 ?_ ?_
 ·rintro impl_typertyp_l0_f impl_typertyp_l0_ih ⟨p0,ctx1,t2⟩ r h
  refine b0 Tryz.f173 K6b 171 [(0,K21 p0),(1,sL ctx1),(2,K1x t2)] fun c hc => ?_
  refine rs hc none [some (.new 1),some (.new 2),oN] [(1,sL ctx1),(3,.ra 1 0),(5,.ra 2 0)] [(1,K20 p0),(2,K1w t2)] tv ?_
  obtain ⟨_,a0,h⟩ := Qdd h
  refine rs hc none [oN,some (.eqv (.no) ⟨[(17,I (ctx1.length : Int))],[],[]⟩),some (.eqv (.mk 3 true) ⟨[(18,.rs 3)],[(3,some (.arr (List.map I (List.replicate (Int.toNat (ctx1.length : Int)) 0))))],[3]⟩),oN,some (.new 4),oN] [(1,sL ctx1),(3,.ra 1 0),(5,.ra 2 0),(7,.ra 4 0)] [(1,K20 p0),(2,K1w t2),(3,.arr (List.map I (List.replicate (Int.toNat (ctx1.length : Int)) 0))),(4,.box [.nils,.rs 3,.nils,I 0,.nils])] (ac (Qdj (d := 17) K11 ctx1) (congrArg (fun z => (⟨[(18,.rs 3)],[(3,some (.arr z))],[3]⟩ : Wr)) (Qei (enc := I) (n := Int.toNat (ctx1.length : Int)) (x := I 0) (Qds 0))) (And.intro (Eq.refl (ctx1.length : Int)) (Qdf a0)) tv) ?_
  refine K7k hc 1 [(1,sL ctx1),(3,.ra 1 0),(5,.ra 2 0),(7,.ra 4 0),(8,.nils)] ?_
  refine K7k hc 1 [(1,sL ctx1),(3,.ra 1 0),(5,.ra 2 0),(7,.ra 4 0),(8,.nils),(9,.nils)] ?_
  refine sN ?_
  refine rss hc none [oN,oN,some (.eqv (.no) ⟨[(23,I (t2.fKids.length : Int))],[],[]⟩),oN] [(1,sL ctx1),(3,.ra 1 0),(5,.ra 2 0),(7,.ra 4 0),(8,.nils),(9,.nils),(22,.sl (List.map K0i t2.fKids)),(23,I (t2.fKids.length : Int)),(24,I 0)] (ai (Qdj (d := 23) K0i t2.fKids) tv) ?_
  refine bk 0 ?_
  obtain ⟨fl,a1,h⟩ := Qdd h
  have hL := impl_typertyp_l0_ih _ _ a1 c hc
  refine Wp.loopN (by kernel_rfl) (WpL.view (fun a w hv => SRx.renL [(20,57),(21,58),(22,59)] (SRx.nilTL 9 59 (SRx.nilTL 8 58 (SRx.nilBL 4 2 57 [.nils,.rs 3,.nils,I 0,.nils] hv (by kernel_rfl) (by kernel_rfl) (by kernel_rfl)) (by kernel_rfl) (by kernel_rfl)) (by kernel_rfl) (by kernel_rfl)) (by kernel_rfl) (by kernel_rfl) (by kernel_rfl)) (?_ : WpL _ c _ _ (mkS [(1,sL ctx1),(3,.ra 1 0),(5,.ra 2 0),(7,.ra 4 0),(8,.rs 21),(9,.rs 22),(22,.sl (List.map K0i t2.fKids)),(23,I (t2.fKids.length : Int)),(24,I 0)] [(1,K20 p0),(2,K1w t2),(3,.arr (List.map I (List.replicate (Int.toNat (ctx1.length : Int)) 0))),(4,.box [.nils,.rs 3,.rs 20,I 0,.nils]),(20,.arr (List.map K06 [])),(21,.arr (List.map K11 [])),(22,.arr (List.map K11 []))])))
  rcases fl with ⟨a2,a3,a4⟩ | r
  ·refine WpL.into (e := (.exit 0)) (mkS [(1,sL ctx1),(3,.ra 1 0),(5,.ra 2 0),(7,.ra 4 0),(8,.rs 21),(9,.rs 22)] [(1,K20 p0),(2,K1w t2),(3,.arr (List.map I (List.replicate (Int.toNat (ctx1.length : Int)) 0))),(4,.box [.nils,.rs 3,.rs 20,I 0,.nils]),(20,.arr (List.map K06 a2)),(21,.arr (List.map K11 a3)),(22,.arr (List.map K11 a4))]) hL ?_
   refine Qcr ?_
   refine sN ?_
   refine vz 21 (K15 a3) [(1,sL ctx1),(3,.ra 1 0),(5,.ra 2 0),(7,.ra 4 0),(8,sL a3),(9,.rs 22)] [(1,K20 p0),(2,K1w t2),(3,.arr (List.map I (List.replicate (Int.toNat (ctx1.length : Int)) 0))),(4,.box [.nils,.rs 3,.rs 20,I 0,.nils]),(20,.arr (List.map K06 a2)),(22,.arr (List.map K11 a4))] ?_
   refine vz 22 (K15 a4) [(1,sL ctx1),(3,.ra 1 0),(5,.ra 2 0),(7,.ra 4 0),(8,sL a3),(9,sL a4)] [(1,K20 p0),(2,K1w t2),(3,.arr (List.map I (List.replicate (Int.toNat (ctx1.length : Int)) 0))),(4,.box [.nils,.rs 3,.rs 20,I 0,.nils]),(20,.arr (List.map K06 a2))] ?_
   obtain ⟨⟨a5,a6⟩,a7,h⟩ := Qdd h
   refine rg hc none [oN,oN,oN,oN,oN,oN,oN,some (.call (I a5) [.undef,.optr [sI a6.fty,sI a6.fneeds,.sl (List.map K06 a6.fkids),I a6.ffault,sI a6.fpath],.undef,.undef,.undef,.undef] 1),oN,oN,oN] [(7,.ra 4 0)] [(4,.box [sI a6.fty,sI a6.fneeds,.sl (List.map K06 a6.fkids),I a5,sI a6.fpath])] (ab (Kjz _ _ a7) K70 tv) ?_
   refine sN ?_
   refine K7k hc 5 [(7,.ra 4 0),(163,.bool (a5 != 0))] ?_
   refine ic h (fun a8 h => ?_) fun a8 h => ?_
   ·refine rs hc none [oN,oN,oN,oN,oN,some (.new 60),oN] [(6,.ra 60 0)] [(60,.box [.nils,.nils,.nils,I a5,.nils])] tv ?_
    refine vb 60 [.nils,.nils,.nils,I a5,.nils] [(6,.ptr [.sl (List.map I []),.sl (List.map I []),.sl (List.map K06 []),I a5,.sl (List.map I [])] 0)] [] ?_
    refine rt ?_
    obtain rfl := os h
    exact rq [false]
   refine sk ?_
   refine K7k hc 2 [(6,.ra 4 0)] ?_
   refine vb 4 [sI a6.fty,sI a6.fneeds,.sl (List.map K06 a6.fkids),I a5,sI a6.fpath] [(6,.ptr [sI a6.fty,sI a6.fneeds,.sl (List.map K06 a6.fkids),I a5,sI a6.fpath] 0)] [] ?_
   refine rt ?_
   obtain rfl := os h
   exact rq [false]
  refine WpL.mono hL ?_
  rintro _ _ ⟨rfl,hfin⟩
  obtain rfl := os h
  exact ⟨.inl rfl,hfin⟩
 ·rintro impl_typertyp_f impl_typertyp_l0_f impl_typertyp_ih impl_typertyp_l0_ih ⟨p0,ctx1,t2,a9,b1,b2,b3⟩ r h
  intro c hc
  refine WpL.step ?_
  refine K7k hc 1 [(1,sL ctx1),(3,.ra 1 0),(5,.ra 2 0),(7,.ra 4 0),(8,.rs 21),(9,.rs 22),(22,.sl (List.map K0i t2.fKids)),(23,I (t2.fKids.length : Int)),(24,I b3),(25,.bool (decide (b3 < (t2.fKids.length : Int))))] ?_
  refine sN ?_
  refine ic h (fun b4 h => ?_) fun b4 h => ?_
  ·refine sk ?_
   refine sN ?_
   refine bk 1 ?_
   obtain ⟨b5,b6,h⟩ := Qdd h
   refine rs hc none [oN,some (.el (K1x b5)),oN,some (.new 40),oN,oN] [(1,sL ctx1),(3,.ra 1 0),(5,.ra 2 0),(7,.ra 4 0),(8,.rs 21),(9,.rs 22),(10,I b3),(11,.ra 40 0),(22,.sl (List.map K0i t2.fKids)),(23,I (t2.fKids.length : Int)),(24,I b3)] [(1,K20 p0),(2,K1w t2),(3,.arr (List.map I (List.replicate (Int.toNat (ctx1.length : Int)) 0))),(4,.box [.nils,.rs 3,.rs 20,I 0,.nils]),(20,.arr (List.map K06 a9)),(21,.arr (List.map K11 b1)),(22,.arr (List.map K11 b2)),(40,K1w b5)] (ai (Qdh b6 (K0p b5)) tv) ?_
   refine K7k hc 1 [(1,sL ctx1),(3,.ra 1 0),(5,.ra 2 0),(7,.ra 4 0),(8,.rs 21),(9,.rs 22),(10,I b3),(11,.ra 40 0),(12,.nils),(22,.sl (List.map K0i t2.fKids)),(23,I (t2.fKids.length : Int)),(24,I b3)] ?_
   refine sN ?_
   refine sN ?_
   obtain ⟨b7,b8,h⟩ := Qdd h
   refine Wp.into (x := .normal) (mkS [(1,sL ctx1),(3,.ra 1 0),(5,.ra 2 0),(7,.ra 4 0),(8,.rs 21),(9,.rs 22),(10,I b3),(11,.ra 40 0),(12,.nils),(22,.sl (List.map K0i t2.fKids)),(23,I (t2.fKids.length : Int)),(24,I b3),(35,.bool b7)] [(1,K20 p0),(2,K1w t2),(3,.arr (List.map I (List.replicate (Int.toNat (ctx1.length : Int)) 0))),(4,.box [.nils,.rs 3,.rs 20,I 0,.nils]),(20,.arr (List.map K06 a9)),(21,.arr (List.map K11 b1)),(22,.arr (List.map K11 b2)),(40,K1w b5)]) ?_ ?_
   ·replace h := b8
    rcases is h with ⟨b9,h⟩ | ⟨b9,h⟩
    ·refine rgs hc none [oN,oN,oN,o_,o_,o_,oT] [(1,sL ctx1),(3,.ra 1 0),(5,.ra 2 0),(7,.ra 4 0),(8,.rs 21),(9,.rs 22),(10,I b3),(11,.ra 40 0),(12,.nils),(22,.sl (List.map K0i t2.fKids)),(23,I (t2.fKids.length : Int)),(24,I b3),(35,.bool true)] (ar 3 (neF b9) (ai b9 tv)) ?_
     obtain rfl := os h
     exact Qcz.mk
    refine rgs hc none [oN,oN,oN,oN,oN,oN,oF] [(1,sL ctx1),(3,.ra 1 0),(5,.ra 2 0),(7,.ra 4 0),(8,.rs 21),(9,.rs 22),(10,I b3),(11,.ra 40 0),(12,.nils),(22,.sl (List.map K0i t2.fKids)),(23,I (t2.fKids.length : Int)),(24,I b3),(35,.bool (t2.fOp == 9))] (ar 4 b9 tv) ?_
    obtain rfl := os h
    exact Qcz.mk
   clear b8
   obtain ⟨c0,c1,h⟩ := Qdd h
   refine Wp.into (x := .normal) (mkS [(1,sL ctx1),(3,.ra 1 0),(5,.ra 2 0),(7,.ra 4 0),(8,.rs 21),(9,.rs 22),(10,I b3),(11,.ra 40 0),(12,.rs 41),(22,.sl (List.map K0i t2.fKids)),(23,I (t2.fKids.length : Int)),(24,I b3)] [(1,K20 p0),(2,K1w t2),(3,.arr (List.map I (List.replicate (Int.toNat (ctx1.length : Int)) 0))),(4,.box [.nils,.rs 3,.rs 20,I 0,.nils]),(20,.arr (List.map K06 a9)),(21,.arr (List.map K11 b1)),(22,.arr (List.map K11 b2)),(40,K1w b5),(41,.arr (List.map K11 c0))]) ?_ ?_
   ·replace h := c1
    refine ic h (fun c2 h => ?_) fun c2 h => ?_
    ·refine K7k hc 1 [(1,sL ctx1),(3,.ra 1 0),(5,.ra 2 0),(7,.ra 4 0),(8,.rs 21),(9,.rs 22),(10,I b3),(11,.ra 40 0),(13,.nils),(22,.sl (List.map K0i t2.fKids)),(23,I (t2.fKids.length : Int)),(24,I b3)] ?_
     refine sN ?_
     refine K7k hc 2 [(1,sL ctx1),(3,.ra 1 0),(5,.ra 2 0),(7,.ra 4 0),(8,.rs 21),(9,.rs 22),(10,I b3),(11,.ra 40 0),(13,.nils),(22,.sl (List.map K0i t2.fKids)),(23,I (t2.fKids.length : Int)),(24,I b3),(37,.bool (decide (b3 > 0)))] ?_
     obtain ⟨c3,c4,h⟩ := Qdd h
     refine Wp.into (x := .normal) (mkS [(1,sL ctx1),(3,.ra 1 0),(5,.ra 2 0),(7,.ra 4 0),(8,.rs 21),(9,.rs 22),(10,I b3),(11,.ra 40 0),(13,sI c3),(22,.sl (List.map K0i t2.fKids)),(23,I (t2.fKids.length : Int)),(24,I b3)] [(1,K20 p0),(2,K1w t2),(3,.arr (List.map I (List.replicate (Int.toNat (ctx1.length : Int)) 0))),(4,.box [.nils,.rs 3,.rs 20,I 0,.nils]),(20,.arr (List.map K06 a9)),(21,.arr (List.map K11 b1)),(22,.arr (List.map K11 b2)),(40,K1w b5)]) ?_ ?_
     ·replace h := c4
      refine ic h (fun c5 h => ?_) fun c5 h => ?_
      ·obtain ⟨c6,c7,h⟩ := Qdd h
       refine rgs hc none [oN,oN,oN,oN,oN,some (.el (.ptr [sI c6.fty,sI c6.fneeds,.sl (List.map K06 c6.fkids),I c6.ffault,sI c6.fpath] 0)),oN,oN,oN,oN] [(1,sL ctx1),(3,.ra 1 0),(5,.ra 2 0),(7,.ra 4 0),(8,.rs 21),(9,.rs 22),(10,I b3),(11,.ra 40 0),(13,sI c6.fty),(22,.sl (List.map K0i t2.fKids)),(23,I (t2.fKids.length : Int)),(24,I b3)] (ab (Qdi (enc := K06) c7) (Qdh (enc := K06) (x := .ptr [sI c6.fty,sI c6.fneeds,.sl (List.map K06 c6.fkids),I c6.ffault,sI c6.fpath] 0) c7 (K09 c6)).2 tv) ?_
       obtain rfl := os h
       exact Qcz.mk
      refine sk ?_
      obtain rfl := os h
      exact Qcz.view (fun a w hv => SRx.renL [] (SRx.nilSL 13 hv (by kernel_rfl)) (by kernel_rfl) (by kernel_rfl) (by kernel_rfl))
     clear c4
     obtain ⟨c8,c9,h⟩ := Qdd h
     refine rg hc none [oN,oN,oN,some (.call (.osl (List.map K11 c8)) [] 41),oN] [(1,sL ctx1),(3,.ra 1 0),(5,.ra 2 0),(7,.ra 4 0),(8,.rs 21),(9,.rs 22),(10,I b3),(11,.ra 40 0),(12,.rs 41),(22,.sl (List.map K0i t2.fKids)),(23,I (t2.fKids.length : Int)),(24,I b3)] [(1,K20 p0),(2,K1w t2),(3,.arr (List.map I (List.replicate (Int.toNat (ctx1.length : Int)) 0))),(4,.box [.nils,.rs 3,.rs 20,I 0,.nils]),(20,.arr (List.map K06 a9)),(21,.arr (List.map K11 b1)),(22,.arr (List.map K11 b2)),(40,K1w b5),(41,.arr (List.map K11 c8))] (cq (Kh6 _ _ c9) K66 tv) ?_
     obtain rfl := os h
     exact Qcz.mk
    refine sk ?_
    obtain rfl := os h
    exact Qcz.view (fun a w hv => SRx.renL [(41,42)] (SRx.nilTL 12 42 hv (by kernel_rfl) (by kernel_rfl)) (by kernel_rfl) (by kernel_rfl) (by kernel_rfl))
   clear c1
   refine sN ?_
   refine vz 41 (K15 c0) [(1,sL ctx1),(3,.ra 1 0),(5,.ra 2 0),(7,.ra 4 0),(8,.rs 21),(9,.rs 22),(10,I b3),(11,.ra 40 0),(12,sL c0),(22,.sl (List.map K0i t2.fKids)),(23,I (t2.fKids.length : Int)),(24,I b3)] [(1,K20 p0),(2,K1w t2),(3,.arr (List.map I (List.replicate (Int.toNat (ctx1.length : Int)) 0))),(4,.box [.nils,.rs 3,.rs 20,I 0,.nils]),(20,.arr (List.map K06 a9)),(21,.arr (List.map K11 b1)),(22,.arr (List.map K11 b2)),(40,K1w b5)] ?_
   obtain ⟨d0,d1,d2,d3,h⟩ := bq2 h
   refine rg hc (rx [[0],[0],[0],[0,1,2],[0,1,2,3],[0],[6],[7]]) [oN,oN,oN,some (.mk 44 false),some (.call (sL d0) [.tup []] 1),oN,oc (.ptr [sI d2.fty,sI d2.fneeds,.sl (List.map K06 d2.fkids),I d2.ffault,sI d2.fpath] 0),oN] [(1,sL ctx1),(3,.ra 1 0),(5,.ra 2 0),(7,.ra 4 0),(8,.rs 21),(9,.rs 22),(10,I b3),(12,sL c0),(14,.ptr [sI d2.fty,sI d2.fneeds,.sl (List.map K06 d2.fkids),I d2.ffault,sI d2.fpath] 0),(22,.sl (List.map K0i t2.fKids)),(23,I (t2.fKids.length : Int)),(24,I b3)] [(1,K20 p0),(2,K1w t2),(3,.arr (List.map I (List.replicate (Int.toNat (ctx1.length : Int)) 0))),(4,.box [.nils,.rs 3,.rs 20,I 0,.nils]),(20,.arr (List.map K06 a9)),(21,.arr (List.map K11 b1)),(22,.arr (List.map K11 b2))] (ab (Q71.args (A1 := [.sl (Q02 (List.map K1n [c0,ctx1]))]) (A2 := [.sl (List.map K1n [c0,ctx1])]) (by simp only [List.map_nil,K1r]) (Khk _ _ d1)) K6a (cq (impl_typertyp_ih _ _ d3) K6c tv)) ?_
   refine sN ?_
   refine K7k hc 5 [(1,sL ctx1),(3,.ra 1 0),(5,.ra 2 0),(7,.ra 4 0),(8,.rs 21),(9,.rs 22),(10,I b3),(12,sL c0),(14,.ptr [sI d2.fty,sI d2.fneeds,.sl (List.map K06 d2.fkids),I d2.ffault,sI d2.fpath] 0),(22,.sl (List.map K0i t2.fKids)),(23,I (t2.fKids.length : Int)),(24,I b3),(62,.bool (d2.ffault != 0))] ?_
   refine ic h (fun d4 h => ?_) fun d4 h => ?_
   ·obtain ⟨_,d5,h⟩ := Qdd h
    refine rs hc (rx [[0],[1],[2],[3],[0],[0,4],[0],[0,6],[0,6,7],[0,6,7,8],[0,4,5,6,7,8,9],[11],[12],[13]]) [oN,oN,oN,oN,oN,some (.mk 45 true),oN,oN,oN,oN,some (.eqv (.mk 46 true) ⟨[(73,.rs 46)],[(46,some (rI ([b3] ++ d2.fpath))),(45,none)],[46]⟩),oN,some (.new 47),oN] [(6,.ra 47 0)] [(46,rI ([b3] ++ d2.fpath)),(47,.box [.nils,.nils,.nils,I d2.ffault,.rs 46])] (ab (congrArg (fun z => (⟨[(73,.rs 46)],[(46,some (.arr z)),(45,none)],[46]⟩ : Wr)) ((List.map_append).symm : (List.map I [b3]) ++ (List.map I d2.fpath) = List.map I ([b3] ++ d2.fpath))) (Qdr (enc1 := I) (enc2 := I) (e1 := [b3]) (e2 := d2.fpath) (sz := 1) Qe0 Qe0 d5) tv) ?_
    refine vz 46 (Qe5 ([b3] ++ d2.fpath)) [(6,.ra 47 0)] [(47,.box [.nils,.nils,.nils,I d2.ffault,sI ([b3] ++ d2.fpath)])] ?_
    refine vb 47 [.nils,.nils,.nils,I d2.ffault,sI ([b3] ++ d2.fpath)] [(6,.ptr [.sl (List.map I []),.sl (List.map I []),.sl (List.map K06 []),I d2.ffault,sI ([b3] ++ d2.fpath)] 0)] [] ?_
    refine rt ?_
    obtain rfl := os h
    exact re [false]
   refine sk ?_
   refine sN ?_
   obtain ⟨d6,d7,h⟩ := Qdd h
   refine rss hc (rx [[0],[0],[0],[0],[0,3],[0,3,4],[0,3,4,5],[7],[8]]) [oN,oN,oN,oN,oN,oN,oN,oc (I d6),oN] [(1,sL ctx1),(3,.ra 1 0),(5,.ra 2 0),(7,.ra 4 0),(8,.rs 21),(9,.rs 22),(10,I b3),(12,sL c0),(14,.ptr [sI d2.fty,sI d2.fneeds,.sl (List.map K06 d2.fkids),I d2.ffault,sI d2.fpath] 0),(15,I d6),(22,.sl (List.map K0i t2.fKids)),(23,I (t2.fKids.length : Int)),(24,I b3)] (cq (Kho _ _ d7) K6e tv) ?_
   refine K7k hc 2 [(1,sL ctx1),(3,.ra 1 0),(5,.ra 2 0),(7,.ra 4 0),(8,.rs 21),(9,.rs 22),(10,I b3),(12,sL c0),(14,.ptr [sI d2.fty,sI d2.fneeds,.sl (List.map K06 d2.fkids),I d2.ffault,sI d2.fpath] 0),(15,I d6),(22,.sl (List.map K0i t2.fKids)),(23,I (t2.fKids.length : Int)),(24,I b3),(85,.bool (d6 != 0))] ?_
   refine ic h (fun d8 h => ?_) fun d8 h => ?_
   ·refine rs hc none [oN,oN,some (.new 48),oN] [(6,.ra 48 0)] [(48,.box [.nils,.nils,.nils,I d6,.nils])] tv ?_
    refine vb 48 [.nils,.nils,.nils,I d6,.nils] [(6,.ptr [.sl (List.map I []),.sl (List.map I []),.sl (List.map K06 []),I d6,.sl (List.map I [])] 0)] [] ?_
    refine rt ?_
    obtain rfl := os h
    exact re [false]
   refine sk ?_
   refine sN ?_
   refine sN ?_
   obtain ⟨d9,e0,h⟩ := Qdd h
   refine Wp.into (x := .normal) (mkS [(1,sL ctx1),(3,.ra 1 0),(5,.ra 2 0),(7,.ra 4 0),(8,.rs 21),(9,.rs 22),(12,sL c0),(14,.ptr [sI d2.fty,sI d2.fneeds,.sl (List.map K06 d2.fkids),I d2.ffault,sI d2.fpath] 0),(22,.sl (List.map K0i t2.fKids)),(23,I (t2.fKids.length : Int)),(24,I b3),(115,.bool d9)] [(1,K20 p0),(2,K1w t2),(3,.arr (List.map I (List.replicate (Int.toNat (ctx1.length : Int)) 0))),(4,.box [.nils,.rs 3,.rs 20,I 0,.nils]),(20,.arr (List.map K06 a9)),(21,.arr (List.map K11 b1)),(22,.arr (List.map K11 b2))]) ?_ ?_
   ·replace h := e0
    rcases is h with ⟨e3,h⟩ | ⟨e3,h⟩
    ·rcases is h with ⟨e4,h⟩ | ⟨e4,h⟩
     ·obtain ⟨e5,e6,e7,e8,e9,f0,f1,f2,h⟩ := bq4 h
      refine rgs hc Kk1 [oN,oN,oN,oN,oN,oN,oT,oN,oN,oN,oN,oN,oN,oN,oN,oN,oN,some (.el (.ptr [sI e5.fty,sI e5.fneeds,.sl (List.map K06 e5.fkids),I e5.ffault,sI e5.fpath] 0)),oN,oN,oN,some (.call (.osl (List.map K11 e7)) [] 49),oN,some (.el (sI e9)),oc (.bool f1),oN,oT] [(1,sL ctx1),(3,.ra 1 0),(5,.ra 2 0),(7,.ra 4 0),(8,.rs 21),(9,.rs 22),(12,sL c0),(14,.ptr [sI d2.fty,sI d2.fneeds,.sl (List.map K06 d2.fkids),I d2.ffault,sI d2.fpath] 0),(22,.sl (List.map K0i t2.fKids)),(23,I (t2.fKids.length : Int)),(24,I b3),(115,.bool (!f1))] (ar 3 e3 (ar 9 e4 (ac (Qdi (enc := K06) e6) e4 (Qdh (enc := K06) (x := .ptr [sI e5.fty,sI e5.fneeds,.sl (List.map K06 e5.fkids),I e5.ffault,sI e5.fpath] 0) e6 (K09 e5)).2 (ar 4 e4 (cq (Kei _ _ e8) K53 (ad e4 (Qdi (enc := K11) f0) e4 (xL f0).2 (ai e4 (cq (Kfl _ _ f2) K5h (ar 2 e4 tv))))))))) ?_
      obtain rfl := os h
      exact Qcz.mk
     refine rgs hc Kk1 [oN,oN,oN,oN,oN,oN,oT,oN,o_,o_,o_,o_,o_,o_,o_,o_,o_,o_,o_,o_,o_,o_,o_,o_,o_,o_,oF] [(1,sL ctx1),(3,.ra 1 0),(5,.ra 2 0),(7,.ra 4 0),(8,.rs 21),(9,.rs 22),(12,sL c0),(14,.ptr [sI d2.fty,sI d2.fneeds,.sl (List.map K06 d2.fkids),I d2.ffault,sI d2.fpath] 0),(22,.sl (List.map K0i t2.fKids)),(23,I (t2.fKids.length : Int)),(24,I b3),(115,.bool false)] (ar 3 e3 (ar 18 (neT e4) (ai e4 tv))) ?_
     obtain rfl := os h
     exact Qcz.mk
    refine rgs hc Kk1 [oN,oN,oN,oN,o_,o_,oF,oN,o_,o_,o_,o_,o_,o_,o_,o_,o_,o_,o_,o_,o_,o_,o_,o_,o_,o_,oF] [(1,sL ctx1),(3,.ra 1 0),(5,.ra 2 0),(7,.ra 4 0),(8,.rs 21),(9,.rs 22),(12,sL c0),(14,.ptr [sI d2.fty,sI d2.fneeds,.sl (List.map K06 d2.fkids),I d2.ffault,sI d2.fpath] 0),(22,.sl (List.map K0i t2.fKids)),(23,I (t2.fKids.length : Int)),(24,I b3),(115,.bool false)] (ar 2 (neT e3) (ai e3 (ar 18 (neT (rfl : false = false)) (ai (rfl : false = false) tv)))) ?_
    obtain rfl := os h
    exact Qcz.mk
   clear e0
   refine ic h (fun f3 h => ?_) fun f3 h => ?_
   ·refine rs hc none [oN,some (.new 50),oN] [(6,.ra 50 0)] [(50,.box [.nils,.nils,.nils,I 3,.nils])] tv ?_
    refine vb 50 [.nils,.nils,.nils,I 3,.nils] [(6,.ptr [.sl (List.map I []),.sl (List.map I []),.sl (List.map K06 []),I 3,.sl (List.map I [])] 0)] [] ?_
    refine rt ?_
    obtain rfl := os h
    exact re [false]
   refine sk ?_
   obtain ⟨_,f4,h⟩ := Qdd h
   refine rs hc none [oN,oN,oN,oN,oN,oN,some (.eqv (.mk 51 false) ⟨[(124,.rs 51)],[(51,some (.arr (List.map K06 [d2])))],[51]⟩),some (.eqv (.mk 52 true) ⟨[(125,.rs 52)],[(52,some (.arr (List.map K06 (a9 ++ [d2])))),(20,none),(51,none)],[52]⟩),oN,oN,oN] [(1,sL ctx1),(3,.ra 1 0),(5,.ra 2 0),(7,.ra 4 0),(8,.rs 21),(9,.rs 22),(12,sL c0),(14,.ptr [sI d2.fty,sI d2.fneeds,.sl (List.map K06 d2.fkids),I d2.ffault,sI d2.fpath] 0),(22,.sl (List.map K0i t2.fKids)),(23,I (t2.fKids.length : Int)),(24,I b3)] [(1,K20 p0),(2,K1w t2),(3,.arr (List.map I (List.replicate (Int.toNat (ctx1.length : Int)) 0))),(4,.box [.nils,.rs 3,.rs 52,I 0,.nils]),(21,.arr (List.map K11 b1)),(22,.arr (List.map K11 b2)),(52,.arr (List.map K06 (a9 ++ [d2])))] (ac (congrArg (fun z => (⟨[(124,.rs 51)],[(51,some (.arr z))],[51]⟩ : Wr)) ((Qek (K09 d2) Qej) : [AV.ptr [sI d2.fty,sI d2.fneeds,.sl (List.map K06 d2.fkids),I d2.ffault,sI d2.fpath] 0] = List.map K06 [d2])) (congrArg (fun z => (⟨[(125,.rs 52)],[(52,some (.arr z)),(20,none),(51,none)],[52]⟩ : Wr)) ((List.map_append).symm : (List.map K06 a9) ++ (List.map K06 [d2]) = List.map K06 (a9 ++ [d2]))) (Qdr (enc1 := K06) (enc2 := K06) (e1 := a9) (e2 := [d2]) (sz := 1) K0c K0c f4) tv) ?_
   obtain ⟨f5,f6,_,f7,f8,f9,_,g0,h⟩ := bq4 h
   refine rg hc (rx [[0],[0],[0,1],[0,1,2],[0,1,2,3],[0],[0,5],[0,1,2,3,4,5,6],[0,1,2,3,4,5,6,7],[9],[0],[0],[0,11],[0,11,12],[0,11,12,13],[0],[0,15],[0,11,12,13,14,15,16],[0,11,12,13,14,15,16,17],[19],[20],[21]]) [oN,oN,oN,oN,oN,oN,some (.eqv (.no) ⟨[(134,I (c0.length : Int))],[],[]⟩),some (.eqv (.no) ⟨[(135,sI f5)],[],[]⟩),some (.mk 53 false),some (.eqv (.mk 54 true) ⟨[(137,.rs 54)],[(54,some (.arr (List.map K11 (b2 ++ [f5])))),(22,none),(53,none)],[54]⟩),oN,oN,oN,oN,oN,oN,some (.eqv (.no) ⟨[(144,I (c0.length : Int))],[],[]⟩),some (.eqv (.no) ⟨[(145,sI f8)],[],[]⟩),some (.mk 55 false),some (.eqv (.mk 56 true) ⟨[(147,.rs 56)],[(56,some (.arr (List.map K11 (b1 ++ [f8])))),(21,none),(55,none)],[56]⟩),oN,oN] [(1,sL ctx1),(3,.ra 1 0),(5,.ra 2 0),(7,.ra 4 0),(8,.rs 56),(9,.rs 54),(22,.sl (List.map K0i t2.fKids)),(23,I (t2.fKids.length : Int)),(24,I b3)] [(1,K20 p0),(2,K1w t2),(3,.arr (List.map I (List.replicate (Int.toNat (ctx1.length : Int)) 0))),(4,.box [.nils,.rs 3,.rs 52,I 0,.nils]),(52,.arr (List.map K06 (a9 ++ [d2]))),(54,.arr (List.map K11 (b2 ++ [f5]))),(56,.arr (List.map K11 (b1 ++ [f8])))] (ad (Qdj (d := 134) K11 c0) (Qdm (d := 135) I f6) (Qdl (enc := I) (sz := 1) Qdw f6) (congrArg (fun z => (⟨[(137,.rs 54)],[(54,some (.arr z)),(22,none),(53,none)],[54]⟩ : Wr)) ((List.map_append).symm : (List.map K11 b2) ++ (List.map K11 [f5]) = List.map K11 (b2 ++ [f5]))) (ad (Qdr (enc1 := K11) (enc2 := K11) (e1 := b2) (e2 := [f5]) (sz := 1) K14 K14 f7) (Qdj (d := 144) K11 c0) (Qdm (d := 145) I f9) (Qdl (enc := I) (sz := 1) Qdw f9) (ab (congrArg (fun z => (⟨[(147,.rs 56)],[(56,some (.arr z)),(21,none),(55,none)],[56]⟩ : Wr)) ((List.map_append).symm : (List.map K11 b1) ++ (List.map K11 [f8]) = List.map K11 (b1 ++ [f8]))) (Qdr (enc1 := K11) (enc2 := K11) (e1 := b1) (e2 := [f8]) (sz := 1) K14 K14 g0) tv))) ?_
   refine K7j hc 2 [(1,sL ctx1),(3,.ra 1 0),(5,.ra 2 0),(7,.ra 4 0),(8,.rs 56),(9,.rs 54),(22,.sl (List.map K0i t2.fKids)),(23,I (t2.fKids.length : Int)),(24,I (wr (b3 + 1)))] ?_
   refine Qcv ?_
   exact WpL.view (fun a w hv => SRx.renL [(20,52),(21,56),(22,54)] hv (by kernel_rfl) (by kernel_rfl) (by kernel_rfl)) (impl_typertyp_l0_ih _ _ h c hc)
  refine xt 0 ?_
  refine Qcp ?_
  refine Qcw ?_
  obtain rfl := os h
  exact iv []
theorem Kk7 : ∀ p r,Kk2 p = some r → Kk4 p r := Kk6.1
theorem Kk8 : ∀ p r,Kk3 p = some r → Kk5 p r := Kk6.2
def Kk9 (p : K00 × LL × K02) : Option (Option K03) :=
 match p with
 | (s0,ctx1,t2) =>
  ((
  (Ke6 s0) >>= fun a0 =>
  if a0 = true then
  (Kgh (s0,ctx1)) >>= fun a1 =>
  if a1 = true then
  (Kh1 (s0,t2,(ctx1.length : Int))) >>= fun a2 =>
  some ((!a2))
  else
  some (true)
  else
  some (true)
  ) : Option (Bool)) >>= fun a3 =>
  if a3 = true then
  some none
  else
  (Kk2 ((K05.mk s0),ctx1,t2)) >>= fun a4 =>
  some (some a4)
def Kka (p : K00 × LL × K02) (r : Option K03) : Prop :=
 match p with
 | (s0,ctx1,t2) => Q71 Tryz.prog 87 [K1t s0,sL ctx1,K1x t2] (K0a r) []
theorem Kkb : ∀ p r,Kk9 p = some r → Kka p r := by
 rintro ⟨s0,ctx1,t2⟩ r h
 unfold Kk9 at h
 refine b0 Tryz.f87 B87 29 [(0,K1t s0),(1,sL ctx1),(2,K1x t2)] fun c hc => ?_
 refine rs hc none [some (.new 1),some (.new 2),oN] [(1,sL ctx1),(3,.ra 1 0),(5,.ra 2 0)] [(1,K1s s0),(2,K1w t2)] tv ?_
 refine sN ?_
 refine sN ?_
 obtain ⟨a0,a1,h⟩ := Qdd h
 refine Wp.into (x := .normal) (mkS [(1,sL ctx1),(3,.ra 1 0),(5,.ra 2 0),(23,.bool a0)] [(1,K1s s0),(2,K1w t2)]) ?_ ?_
 ·replace h := a1
  obtain ⟨a2,a3,h⟩ := Qdd h
  rcases is h with ⟨a4,h⟩ | ⟨a4,h⟩
  ·obtain ⟨a5,a6,h⟩ := Qdd h
   rcases is h with ⟨a7,h⟩ | ⟨a7,h⟩
   ·obtain ⟨a8,a9,h⟩ := Qdd h
    refine rgs hc none [oN,oc (.bool a2),oN,oN,oN,oN,oc (.bool a5),oN,oF,oN,oN,oN,oN,some (.eqv (.no) ⟨[(20,I (ctx1.length : Int))],[],[]⟩),oc (.bool a8),oN,oF] [(1,sL ctx1),(3,.ra 1 0),(5,.ra 2 0),(23,.bool (!a8))] (cq (Ke8 _ _ a3) K50 (ar 3 (nF a4) (cq (Kgj _ _ a6) K5u (ar 2 (nF a4) (ar 4 (nF a7) (ab (Qdj (d := 20) K11 ctx1) (nF a7) (cq (Kh3 _ _ a9) K64 (ar 2 (nF a7) tv)))))))) ?_
    obtain rfl := os h
    exact Qcz.mk
   refine rgs hc none [oN,oc (.bool a2),oN,oN,oN,oN,oc (.bool a5),oN,oF,oN,o_,o_,o_,o_,o_,o_,oT] [(1,sL ctx1),(3,.ra 1 0),(5,.ra 2 0),(23,.bool true)] (cq (Ke8 _ _ a3) K50 (ar 3 (nF a4) (cq (Kgj _ _ a6) K5u (ar 2 (nF a4) (ar 6 (neF (nT a7)) (ai (nT a7) tv)))))) ?_
   obtain rfl := os h
   exact Qcz.mk
  refine rgs hc none [oN,oc (.bool a2),oN,oN,o_,o_,o_,o_,oT,oN,o_,o_,o_,o_,o_,o_,oT] [(1,sL ctx1),(3,.ra 1 0),(5,.ra 2 0),(23,.bool true)] (cq (Ke8 _ _ a3) K50 (ar 4 (neF (nT a4)) (ai (nT a4) (ar 6 nf (ai tt tv))))) ?_
  obtain rfl := os h
  exact Qcz.mk
 clear a1
 refine ic h (fun b1 h => ?_) fun b1 h => ?_
 ·refine rs0 hc 1 [(6,.nilp)] [] ?_
  refine rt ?_
  obtain rfl := os h
  exact rq [false]
 refine sk ?_
 obtain ⟨b2,b3,h⟩ := Qdd h
 refine rs hc none [oN,oN,oN,oN,oc (.ptr [sI b2.fty,sI b2.fneeds,.sl (List.map K06 b2.fkids),I b2.ffault,sI b2.fpath] 0),oN] [(6,.ptr [sI b2.fty,sI b2.fneeds,.sl (List.map K06 b2.fkids),I b2.ffault,sI b2.fpath] 0)] [] (cq (Kk7 _ _ b3) K6c tv) ?_
 refine rt ?_
 obtain rfl := os h
 exact rq [false]
def Kkc (p : K00 × LL × K02) : Option ((List Int) × (List Int) × Bool) :=
 match p with
 | (s0,ctx1,t2) =>
  (Kk9 (s0,ctx1,t2)) >>= fun a0 =>
  match a0 with
  | none =>
   some ([],[],false)
  | some a1 =>
   if (a1.ffault != 0) = true then
   some ([],[],false)
   else
   (Kej a1.fty) >>= fun a2 =>
   (Kej a1.fneeds) >>= fun a3 =>
   some (a2,a3,true)
def Kkd (p : K00 × LL × K02) (r : (List Int) × (List Int) × Bool) : Prop :=
 match p with
 | (s0,ctx1,t2) => Q71 Tryz.prog 23 [K1t s0,sL ctx1,K1x t2] (.tup [oI r.1,.osl (List.map I r.2.1),.bool r.2.2]) []
theorem Kke : ∀ p r,Kkc p = some r → Kkd p r := by
 rintro ⟨s0,ctx1,t2⟩ r h
 unfold Kkc at h
 refine b0 Tryz.f23 B23 33 [(0,K1t s0),(1,sL ctx1),(2,K1x t2)] fun c hc => ?_
 refine rs hc none [some (.new 1),some (.new 2),oN,oN,oN] [(1,sL ctx1),(3,.ra 1 0),(5,.ra 2 0)] [(1,K1s s0),(2,K1w t2)] tv ?_
 refine sN ?_
 obtain ⟨a0,a1,h⟩ := Qdd h
 rcases a0 with _ | a2
 ·refine rg hc none [oN,oN,oN,oc (.nilp),oN] [(9,.nilp)] [] (cq (Kkb _ _ a1) K71 tv) ?_
  refine sN ?_
  refine rs hc none [oN,oN,oN,o_,o_,o_,o_,o_,oT] [(9,.nilp),(22,.bool true)] [] (ar 5 nf (ai tt tv)) ?_
  refine cT true (rfl : true = true) ?_
  refine rs0 hc 3 [(6,.nils),(7,.nils),(8,.bool false)] [] ?_
  refine rt ?_
  obtain rfl := os h
  exact rq [true,true,true]
 refine rg hc none [oN,oN,oN,oc (.ptr [sI a2.fty,sI a2.fneeds,.sl (List.map K06 a2.fkids),I a2.ffault,sI a2.fpath] 0),oN] [(9,.ptr [sI a2.fty,sI a2.fneeds,.sl (List.map K06 a2.fkids),I a2.ffault,sI a2.fpath] 0)] [] (cq (Kkb _ _ a1) K71 tv) ?_
 refine sN ?_
 refine rs hc none [oN,oN,oN,oN,oN,oN,oN,oN,oF] [(9,.ptr [sI a2.fty,sI a2.fneeds,.sl (List.map K06 a2.fkids),I a2.ffault,sI a2.fpath] 0),(22,.bool (a2.ffault != 0))] [] (ar 6 (rfl : false = false) tv) ?_
 refine ic h (fun a3 h => ?_) fun a3 h => ?_
 ·refine rs0 hc 3 [(6,.nils),(7,.nils),(8,.bool false)] [] ?_
  refine rt ?_
  obtain rfl := os h
  exact rq [true,true,true]
 refine sk ?_
 obtain ⟨a4,a5,a6,a7,h⟩ := bq2 h
 refine rs hc (rx [[0],[1],[2],[3],[4],[0],[0,5],[0,5,6],[0,5,6,7],[9],[10],[11],[12]]) [oN,oN,oN,oN,some (.call (oI a4) [] 3),oN,oN,oN,oN,some (.call (oI a6) [] 4),oN,oN,oN] [(6,.rs 3),(7,.rs 4),(8,.bool true)] [(3,rI a4),(4,rI a6)] (cq (Kel _ _ a5) K55 (cq (Kel _ _ a7) K55 tv)) ?_
 refine rt ?_
 obtain rfl := os h
 exact rq [true,true,true]
def Kkf (c : Ctx) (s0 : K00) (a0 : Int) : Bool → Exit → Q0a → Prop
 | a1 => Qcz c (.exit 2) (mkS [(1,.ra 1 0),(3,I a0),(4,.bool a1)] [(1,K1s s0)])
def Kkg (p : K00 × Int × Bool × Int) : Option (Bool) :=
 match p with
 | (s0,a0,a1,a2) =>
  if (decide (a2 < s0.fSize)) = true then
  ((
  if a1 = true then
  (Kd6 (s0,a0,a2)) >>= fun a3 =>
  some (a3)
  else
  some (false)
  ) : Option (Bool)) >>= fun a4 =>
  Kkg (s0,a0,a4,(wr (a2 + 1)))
  else
  some (a1)
 partial_fixpoint
def Kkh (p : K00 × Int × Bool × Int) (fl : Bool) : Prop :=
 match p with
 | (s0,a0,a1,a2) => ∀ c : Ctx,c.nt = 30 → WpL Tryz.prog c (cl (cl (cr (cl (cr (cl (cl (cr (cl (cl (cr (cl (cr (cr B24)))))))))))))) (Kkf c s0 a0 fl) (mkS [(1,.ra 1 0),(3,I a0),(4,.bool a1),(5,I a2)] [(1,K1s s0)])
theorem Kki : ∀ p r,Kkg p = some r → Kkh p r := by
 refine Kkg.partial_correctness Kkh ?_
 rintro impl_LeastGrade_l0_f impl_LeastGrade_l0_ih ⟨s0,a0,a1,a2⟩ r h
 intro c hc
 refine WpL.step ?_
 refine sN ?_
 refine K7k hc 4 [(1,.ra 1 0),(3,I a0),(4,.bool a1),(5,I a2),(18,.bool (decide (a2 < s0.fSize)))] ?_
 refine ic h (fun a3 h => ?_) fun a3 h => ?_
 ·refine sk ?_
  refine sN ?_
  refine bk 3 ?_
  obtain ⟨a4,a5,h⟩ := Qdd h
  refine Wp.into (x := .normal) (mkS [(1,.ra 1 0),(3,I a0),(4,.bool a4),(5,I a2)] [(1,K1s s0)]) ?_ ?_
  ·replace h := a5
   rcases is h with ⟨a6,h⟩ | ⟨a6,h⟩
   ·obtain ⟨a7,a8,h⟩ := Qdd h
    refine rgs hc none [oN,oN,oN,oN,oN,oc (.bool a7),oT,oN] [(1,.ra 1 0),(3,I a0),(4,.bool a7),(5,I a2)] (ar 4 a6 (cq (Kd8 _ _ a8) K4v (ai a6 tv))) ?_
    obtain rfl := os h
    exact Qcz.mk
   refine rgs hc none [oN,oN,o_,o_,o_,o_,oF,oN] [(1,.ra 1 0),(3,I a0),(4,.bool false),(5,I a2)] (ar 4 (neT a6) (ai a6 tv)) ?_
   obtain rfl := os h
   exact Qcz.mk
  clear a5
  refine K7j hc 3 [(1,.ra 1 0),(3,I a0),(4,.bool a4),(5,I (wr (a2 + 1)))] ?_
  refine Qcv ?_
  exact (impl_LeastGrade_l0_ih _ _ h c hc)
 refine xt 2 ?_
 refine Qcp ?_
 refine Qcw ?_
 obtain rfl := os h
 exact iv []
def Kkj (c : Ctx) : (Unit) ⊕ (Int) → Exit → Q0a → Prop
 | .inl _ => Qcz c (.exit 0) (mkS [] [])
 | .inr r => Qd8 TIx Tryz.f24 [] (I r)
def Kkk (p : K00 × Int) : Option ((Unit) ⊕ (Int)) :=
 match p with
 | (s0,a0) =>
  if (decide (a0 < s0.fSize)) = true then
  (Kkg (s0,a0,true,0)) >>= fun a1 =>
  if a1 = true then
  some (.inr a0)
  else
  Kkk (s0,(wr (a0 + 1)))
  else
  some (.inl ())
 partial_fixpoint
def Kkl (p : K00 × Int) (fl : (Unit) ⊕ (Int)) : Prop :=
 match p with
 | (s0,a0) => ∀ c : Ctx,c.nt = 30 → WpL Tryz.prog c (cl (cl (cr (cl (cr (cr B24)))))) (Kkj c fl) (mkS [(1,.ra 1 0),(3,I a0)] [(1,K1s s0)])
theorem Kkm : ∀ p r,Kkk p = some r → Kkl p r := by
 refine Kkk.partial_correctness Kkl ?_
 rintro impl_LeastGrade_l1_f impl_LeastGrade_l1_ih ⟨s0,a0⟩ r h
 intro c hc
 refine WpL.step ?_
 refine sN ?_
 refine K7k hc 4 [(1,.ra 1 0),(3,I a0),(12,.bool (decide (a0 < s0.fSize)))] ?_
 refine ic h (fun a1 h => ?_) fun a1 h => ?_
 ·refine sk ?_
  refine sN ?_
  refine bk 1 ?_
  refine K7k hc 1 [(1,.ra 1 0),(3,I a0),(4,.bool true)] ?_
  refine sN ?_
  refine K7k hc 1 [(1,.ra 1 0),(3,I a0),(4,.bool true),(5,I 0)] ?_
  refine bk 2 ?_
  obtain ⟨a2,a3,h⟩ := Qdd h
  have hL := Kki _ _ a3 c hc
  refine lp ?_
  refine WpL.into (e := (.exit 2)) (mkS [(1,.ra 1 0),(3,I a0),(4,.bool a2)] [(1,K1s s0)]) hL ?_
  refine Qcr ?_
  refine K7k hc 1 [(1,.ra 1 0),(3,I a0),(28,.bool a2)] ?_
  refine ic h (fun a4 h => ?_) fun a4 h => ?_
  ·refine rs0 hc 2 [(2,I a0)] [] ?_
   refine rt ?_
   obtain rfl := os h
   exact re [true]
  refine sk ?_
  refine K7j hc 3 [(1,.ra 1 0),(3,I (wr (a0 + 1)))] ?_
  refine Qcv ?_
  exact (impl_LeastGrade_l1_ih _ _ h c hc)
 refine xt 0 ?_
 refine Qcp ?_
 refine Qcw ?_
 obtain rfl := os h
 exact iv []
def Kkn (s0 : K00) : Option (Int) :=
 (Ke6 s0) >>= fun a0 =>
 if a0 = true then
 (Kkk (s0,0)) >>= fun fl => match fl with
 | .inl () =>
  some (-1)
 | .inr r =>
  some r
 else
 some (-1)
def Kko (s0 : K00) (r : Int) : Prop :=
 Q71 Tryz.prog 24 [K1t s0] (I r) []
theorem Kkp : ∀ p r,Kkn p = some r → Kko p r := by
 rintro s0 r h
 unfold Kkn at h
 refine b0 Tryz.f24 B24 30 [(0,K1t s0)] fun c hc => ?_
 refine rs hc none [some (.new 1),oN] [(1,.ra 1 0)] [(1,K1s s0)] tv ?_
 refine sN ?_
 obtain ⟨a0,a1,h⟩ := Qdd h
 refine rss hc none [oN,oc (.bool a0),oN] [(1,.ra 1 0),(8,.bool (!a0))] (cq (Ke8 _ _ a1) K50 tv) ?_
 rcases is h with ⟨a2,h⟩ | ⟨a2,h⟩
 ·refine cF (!a0) (nF a2) ?_
  refine sk ?_
  refine sN ?_
  refine K7k hc 1 [(1,.ra 1 0),(3,I 0)] ?_
  refine bk 0 ?_
  obtain ⟨fl,a3,h⟩ := Qdd h
  have hL := Kkm _ _ a3 c hc
  refine lp ?_
  rcases fl with ⟨⟩ | r
  ·refine WpL.into (e := (.exit 0)) (mkS [] []) hL ?_
   refine Qcr ?_
   refine rs0 hc 1 [(2,I (-1))] [] ?_
   refine rt ?_
   obtain rfl := os h
   exact rq [true]
  refine WpL.mono hL ?_
  rintro _ _ ⟨rfl,hfin⟩
  obtain rfl := os h
  exact ⟨.inl rfl,hfin⟩
 refine cT (!a0) (nT a2) ?_
 refine rs0 hc 1 [(2,I (-1))] [] ?_
 refine rt ?_
 obtain rfl := os h
 exact rq [true]
def Kkq (c : Ctx) : (Unit) ⊕ (Bool) → Exit → Q0a → Prop
 | .inl _ => Qcz c (.exit 0) (mkS [] [])
 | .inr r => Qd8 TIx Tryz.f25 [] (.bool r)
def Kkr (p : (List Int) × (List Int) × Int) : Option ((Unit) ⊕ (Bool)) :=
 match p with
 | (a0,b1,a1) =>
  if (decide (a1 < (a0.length : Int))) = true then
  (idx a0 a1) >>= fun a2 =>
  (idx b1 a1) >>= fun a3 =>
  if (a2 != a3) = true then
  some (.inr false)
  else
  Kkr (a0,b1,(wr (a1 + 1)))
  else
  some (.inl ())
 partial_fixpoint
def Kks (p : (List Int) × (List Int) × Int) (fl : (Unit) ⊕ (Bool)) : Prop :=
 match p with
 | (a0,b1,a1) => ∀ c : Ctx,c.nt = 26 → WpL Tryz.prog c (cl (cl (cr (cl (cr (cr B25)))))) (Kkq c fl) (mkS [(0,sI a0),(1,sI b1),(5,I a1)] [])
theorem Kkt : ∀ p r,Kkr p = some r → Kks p r := by
 refine Kkr.partial_correctness Kks ?_
 rintro laws_ints_l0_f laws_ints_l0_ih ⟨a0,b1,a1⟩ r h
 intro c hc
 refine WpL.step ?_
 refine sN ?_
 refine rs hc none [oN,oN,some (.eqv (.no) ⟨[(13,I (a0.length : Int))],[],[]⟩),oN] [(0,sI a0),(1,sI b1),(5,I a1),(14,.bool (decide (a1 < (a0.length : Int))))] [] (ai (Qdj (d := 13) I a0) tv) ?_
 refine ic h (fun a2 h => ?_) fun a2 h => ?_
 ·refine sk ?_
  refine sN ?_
  refine bk 1 ?_
  obtain ⟨a3,a4,a5,a6,h⟩ := bq2 h
  refine rs hc (rx [[0],[0],[2],[3],[0],[0],[0,4,5],[0,4,5,6],[8]]) [oN,oN,some (.el (I a3)),oN,oN,oN,some (.el (I a5)),oN,oN] [(0,sI a0),(1,sI b1),(5,I a1),(25,.bool (a3 != a5))] [] (ab (ix a4) (ix a6) tv) ?_
  refine ic h (fun a7 h => ?_) fun a7 h => ?_
  ·refine rs0 hc 1 [(4,.bool false)] [] ?_
   refine rt ?_
   obtain rfl := os h
   exact re [true]
  refine sk ?_
  refine rg0 hc 3 [(0,sI a0),(1,sI b1),(5,I (wr (a1 + 1)))] [] ?_
  refine Qcv ?_
  exact (laws_ints_l0_ih _ _ h c hc)
 refine xt 0 ?_
 refine Qcp ?_
 refine Qcw ?_
 obtain rfl := os h
 exact iv []
def Kku (p : (List Int) × (List Int)) : Option (Bool) :=
 match p with
 | (a0,b1) =>
  if ((a0.length : Int) != (b1.length : Int)) = true then
  some false
  else
  (Kkr (a0,b1,0)) >>= fun fl => match fl with
  | .inl () =>
   some true
  | .inr r =>
   some r
def Kkv (p : (List Int) × (List Int)) (r : Bool) : Prop :=
 match p with
 | (a0,b1) => Q71 Tryz.prog 25 [sI a0,sI b1] (.bool r) []
theorem Kkw : ∀ p r,Kku p = some r → Kkv p r := by
 rintro ⟨a0,b1⟩ r h
 unfold Kku at h
 refine b0 Tryz.f25 B25 26 [(0,sI a0),(1,sI b1)] fun c hc => ?_
 refine rs0 hc 1 [(0,sI a0),(1,sI b1)] [] ?_
 refine sN ?_
 refine rs hc none [oN,some (.eqv (.no) ⟨[(7,I (a0.length : Int))],[],[]⟩),oN,some (.eqv (.no) ⟨[(9,I (b1.length : Int))],[],[]⟩),oN] [(0,sI a0),(1,sI b1),(10,.bool ((a0.length : Int) != (b1.length : Int)))] [] (ab (Qdj (d := 7) I a0) (Qdj (d := 9) I b1) tv) ?_
 refine ic h (fun a1 h => ?_) fun a1 h => ?_
 ·refine rs0 hc 1 [(4,.bool false)] [] ?_
  refine rt ?_
  obtain rfl := os h
  exact rq [true]
 refine sk ?_
 refine sN ?_
 refine rs0 hc 1 [(0,sI a0),(1,sI b1),(5,I 0)] [] ?_
 refine bk 0 ?_
 obtain ⟨fl,a2,h⟩ := Qdd h
 have hL := Kkt _ _ a2 c hc
 refine lp ?_
 rcases fl with ⟨⟩ | r
 ·refine WpL.into (e := (.exit 0)) (mkS [] []) hL ?_
  refine Qcr ?_
  refine rs0 hc 1 [(4,.bool true)] [] ?_
  refine rt ?_
  obtain rfl := os h
  exact rq [true]
 refine WpL.mono hL ?_
 rintro _ _ ⟨rfl,hfin⟩
 obtain rfl := os h
 exact ⟨.inl rfl,hfin⟩
def Kkx (c0 : Int) : Option (Bool) :=
 ((
 (K82 (c0,3,18)) >>= fun a0 =>
 if a0 = true then
 some (true)
 else
 some ((c0 == 35))
 ) : Option (Bool)) >>= fun a1 =>
 some a1
def Kky (c0 : Int) (r : Bool) : Prop :=
 Q71 Tryz.prog 215 [I c0] (.bool r) []
theorem Kkz : ∀ p r,Kkx p = some r → Kky p r := by
 rintro c0 r h
 unfold Kkx at h
 refine b0 Tryz.f215 K75 9 [(0,I c0)] fun c hc => ?_
 refine rs0 hc 1 [(0,I c0)] [] ?_
 refine sN ?_
 obtain ⟨a0,a1,h⟩ := Qdd h
 refine Wp.into (x := .normal) (mkS [(2,.bool a0)] []) ?_ ?_
 ·replace h := a1
  obtain ⟨a2,a3,h⟩ := Qdd h
  rcases is h with ⟨a4,h⟩ | ⟨a4,h⟩
  ·refine rg hc none [oN,oc (.bool a2),oN,o_,o_,oT,oN] [(2,.bool true)] [] (cq (K84 _ _ a3) K33 (ar 2 (neF a4) (ai a4 tv))) ?_
   obtain rfl := os h
   exact Qcz.mk
  refine rg hc none [oN,oc (.bool a2),oN,oN,oN,oF,oN] [(2,.bool (c0 == 35))] [] (cq (K84 _ _ a3) K33 (ar 3 a4 tv)) ?_
  obtain rfl := os h
  exact Qcz.mk
 clear a1
 refine rt ?_
 obtain rfl := os h
 exact rq [true]
def Kl0 (c0 : Int) : Option (Bool) :=
 ((
 (K82 (c0,19,34)) >>= fun a0 =>
 if a0 = true then
 some (true)
 else
 some ((c0 == 36))
 ) : Option (Bool)) >>= fun a1 =>
 some a1
def Kl1 (c0 : Int) (r : Bool) : Prop :=
 Q71 Tryz.prog 185 [I c0] (.bool r) []
theorem Kl2 : ∀ p r,Kl0 p = some r → Kl1 p r := by
 rintro c0 r h
 unfold Kl0 at h
 refine b0 Tryz.f185 K77 9 [(0,I c0)] fun c hc => ?_
 refine rs0 hc 1 [(0,I c0)] [] ?_
 refine sN ?_
 obtain ⟨a0,a1,h⟩ := Qdd h
 refine Wp.into (x := .normal) (mkS [(2,.bool a0)] []) ?_ ?_
 ·replace h := a1
  obtain ⟨a2,a3,h⟩ := Qdd h
  rcases is h with ⟨a4,h⟩ | ⟨a4,h⟩
  ·refine rg hc none [oN,oc (.bool a2),oN,o_,o_,oT,oN] [(2,.bool true)] [] (cq (K84 _ _ a3) K33 (ar 2 (neF a4) (ai a4 tv))) ?_
   obtain rfl := os h
   exact Qcz.mk
  refine rg hc none [oN,oc (.bool a2),oN,oN,oN,oF,oN] [(2,.bool (c0 == 36))] [] (cq (K84 _ _ a3) K33 (ar 3 a4 tv)) ?_
  obtain rfl := os h
  exact Qcz.mk
 clear a1
 refine rt ?_
 obtain rfl := os h
 exact rq [true]
end Go.Am
