/- Functions of the program as pure functions,and that it computes them. Printed by a program of mine (gen.py). -/
import Derived.Test.YtmcpomoofkjfcaaGreatGCTF9
set_option linter.unusedVariables false
set_option linter.unusedSimpArgs false
set_option maxRecDepth 100000
namespace Go.Am
open Go Go.Proofs
def Kn5 : Option (List (List Nat)) := rx [[0],[1],[2],[3],[4],[5],[6],[7],[8],[9],[10],[11],[8],[8,12],[8,12,13],[8,12,13,14],[8,12,13,14,15],[8,12,13,14,15,16],[8,12,13,14,15,16,17],[8,12,13,14,15,16,17,18],[8,12,13,14,15,16,17,18,19],[8,12,13,14,15,16,17,18,19,20],[8,12,13,14,15,16,17,18,19,20,21],[8,12,13,14,15,16,17,18,19,20,21,22],[24],[25],[26]]
def Kn6 : Option (List (List Nat)) := rx [[0],[0],[2],[3],[4],[5],[5],[5],[5,6,7],[5,6,7,8],[5],[11],[12],[13]]
mutual
def Kn7 (p : K05 × LL × K01) : Option (K03) :=
 match p with
 | (p0,ctx1,t2) =>
  (chk (0 ≤ (ctx1.length : Int) ∧ (Int.toNat (ctx1.length : Int)) * 8 ≤ 140737488355328)) >>= fun _ =>
  (Kn8 (p0,ctx1,t2,[],[],[],0)) >>= fun fl => match fl with
  | .inl (a0,a1,a2) =>
   (Kn1 (p0,(K03.mk [] (List.replicate (Int.toNat (ctx1.length : Int)) 0) a0 0 []),ctx1,t2,a1,a2)) >>= fun (a3,a4) =>
   if (a3 != 0) = true then
   some (K03.mk [] [] [] a3 [])
   else
   some (K03.mk a4.fty a4.fneeds a4.fkids a3 a4.fpath)
  | .inr r =>
   some r
 partial_fixpoint
def Kn8 (p : K05 × LL × K01 × (List K03) × LL × LL × Int) : Option (((List K03) × LL × LL) ⊕ (K03)) :=
 match p with
 | (p0,ctx1,t2,a0,a1,a2,a3) =>
  if (decide (a3 < (t2.fKids.length : Int))) = true then
  (idx t2.fKids a3) >>= fun a4 =>
  ((
  if (decide (a3 > 0)) = true then
  some (true)
  else
  some ((t2.fOp == 9))
  ) : Option (Bool)) >>= fun a5 =>
  ((
  if a5 = true then
  ((
  if (decide (a3 > 0)) = true then
  (idx a0 0) >>= fun a6 =>
  some (a6.fty)
  else
  some ([])
  ) : Option ((List Int))) >>= fun a7 =>
  (Kjy (t2,a3,a7)) >>= fun a8 =>
  some (a8)
  else
  some ([])
  ) : Option (LL)) >>= fun a9 =>
  (Kkc [a9,ctx1]) >>= fun b1 =>
  (Kn7 (p0,b1,a4)) >>= fun b2 =>
  if (b2.ffault != 0) = true then
  (Qd6 ([a3].length + b2.fpath.length) 8) >>= fun _ =>
  some (.inr (K03.mk [] [] [] b2.ffault ([a3] ++ b2.fpath)))
  else
  (Kkg (p0,t2,a3,b2.fty)) >>= fun b3 =>
  if (b3 != 0) = true then
  some (.inr (K03.mk [] [] [] b3 []))
  else
  ((
  if (t2.fOp == 10) = true then
  if (a3 == 1) = true then
  (idx a0 0) >>= fun b4 =>
  (Kjv b4.fty) >>= fun b5 =>
  (idx b5 0) >>= fun b6 =>
  (Kkn (b2.fty,b6)) >>= fun b7 =>
  some ((!b7))
  else
  some (false)
  else
  some (false)
  ) : Option (Bool)) >>= fun b8 =>
  if b8 = true then
  some (.inr (K03.mk [] [] [] 3 []))
  else
  (Qd6 (a0.length + [b2].length) 8) >>= fun _ =>
  (cut b2.fneeds none (some (a9.length : Int)) none) >>= fun b9 =>
  (Qd6 (a2.length + [b9].length) 24) >>= fun _ =>
  (cut b2.fneeds (some (a9.length : Int)) none none) >>= fun c0 =>
  (Qd6 (a1.length + [c0].length) 24) >>= fun _ =>
  Kn8 (p0,ctx1,t2,(a0 ++ [b2]),(a1 ++ [c0]),(a2 ++ [b9]),(wr (a3 + 1)))
  else
  some (.inl (a0,a1,a2))
 partial_fixpoint
end
def Kn9 (p : K05 × LL × K01) (r : K03) : Prop :=
 match p with
 | (p0,ctx1,t2) => Q71 Tryz.prog 156 [K21 p0,sL ctx1,K1v t2] (.ptr [sI r.fty,sI r.fneeds,.sl (List.map K06 r.fkids),I r.ffault,sI r.fpath] 0) []
def Kna (p : K05 × LL × K01 × (List K03) × LL × LL × Int) (fl : ((List K03) × LL × LL) ⊕ (K03)) : Prop :=
 match p with
 | (p0,ctx1,t2,a0,a1,a2,a3) => ∀ c : Ctx,c.nt = 171 → WpL Tryz.prog c (cl (cl (cr (cl (cr (cr (cr (cr K6x)))))))) (Kn4 c p0 ctx1 t2 fl) (mkS [(1,sL ctx1),(3,.ra 1 0),(5,.ra 2 0),(7,.ra 4 0),(8,.rs 21),(9,.rs 22),(22,.sl (List.map K0g t2.fKids)),(23,I (t2.fKids.length : Int)),(24,I a3)] [(1,K20 p0),(2,K1u t2),(3,.arr (List.map I (List.replicate (Int.toNat (ctx1.length : Int)) 0))),(4,.box [.nils,.rs 3,.rs 20,I 0,.nils]),(20,.arr (List.map K06 a0)),(21,.arr (List.map K10 a1)),(22,.arr (List.map K10 a2))])
theorem Knb : (∀ p r,Kn7 p = some r → Kn9 p r) ∧ (∀ p r,Kn8 p = some r → Kna p r) := by
 refine Kn7.mutual_partial_correctness Kn9 Kna ?_ ?_
 ·rintro impl_typertyp_l0_f impl_typertyp_l0_ih ⟨p0,ctx1,t2⟩ r h
  refine b0 Tryz.f156 K6x 171 [(0,K21 p0),(1,sL ctx1),(2,K1v t2)] fun c hc => ?_
  refine rs hc none [some (.new 1),some (.new 2),oN] [(1,sL ctx1),(3,.ra 1 0),(5,.ra 2 0)] [(1,K20 p0),(2,K1u t2)] tv ?_
  obtain ⟨_,a0,h⟩ := Qct h
  refine rs hc none [oN,some (.eqv (.no) ⟨[(17,I (ctx1.length : Int))],[],[]⟩),some (.eqv (.mk 3 true) ⟨[(18,.rs 3)],[(3,some (.arr (List.map I (List.replicate (Int.toNat (ctx1.length : Int)) 0))))],[3]⟩),oN,some (.new 4),oN] [(1,sL ctx1),(3,.ra 1 0),(5,.ra 2 0),(7,.ra 4 0)] [(1,K20 p0),(2,K1u t2),(3,.arr (List.map I (List.replicate (Int.toNat (ctx1.length : Int)) 0))),(4,.box [.nils,.rs 3,.nils,I 0,.nils])] (ac (Qcz (d := 17) K10 ctx1) (congrArg (fun z => (⟨[(18,.rs 3)],[(3,some (.arr z))],[3]⟩ : Wr)) (Qdy (enc := I) (n := Int.toNat (ctx1.length : Int)) (x := I 0) (Qd8 0))) (And.intro (Eq.refl (ctx1.length : Int)) (Qcv a0)) tv) ?_
  refine K8k hc 1 [(1,sL ctx1),(3,.ra 1 0),(5,.ra 2 0),(7,.ra 4 0),(8,.nils)] ?_
  refine K8k hc 1 [(1,sL ctx1),(3,.ra 1 0),(5,.ra 2 0),(7,.ra 4 0),(8,.nils),(9,.nils)] ?_
  refine sN ?_
  refine rss hc none [oN,oN,some (.eqv (.no) ⟨[(23,I (t2.fKids.length : Int))],[],[]⟩),oN] [(1,sL ctx1),(3,.ra 1 0),(5,.ra 2 0),(7,.ra 4 0),(8,.nils),(9,.nils),(22,.sl (List.map K0g t2.fKids)),(23,I (t2.fKids.length : Int)),(24,I 0)] (ai (Qcz (d := 23) K0g t2.fKids) tv) ?_
  refine bk 0 ?_
  obtain ⟨fl,a1,h⟩ := Qct h
  have hL := impl_typertyp_l0_ih _ _ a1 c hc
  refine Wp.loopN (by kernel_rfl) (WpL.view (fun a w hv => SRx.renL [(20,57),(21,58),(22,59)] (SRx.nilTL 9 59 (SRx.nilTL 8 58 (SRx.nilBL 4 2 57 [.nils,.rs 3,.nils,I 0,.nils] hv (by kernel_rfl) (by kernel_rfl) (by kernel_rfl)) (by kernel_rfl) (by kernel_rfl)) (by kernel_rfl) (by kernel_rfl)) (by kernel_rfl) (by kernel_rfl) (by kernel_rfl)) (?_ : WpL _ c _ _ (mkS [(1,sL ctx1),(3,.ra 1 0),(5,.ra 2 0),(7,.ra 4 0),(8,.rs 21),(9,.rs 22),(22,.sl (List.map K0g t2.fKids)),(23,I (t2.fKids.length : Int)),(24,I 0)] [(1,K20 p0),(2,K1u t2),(3,.arr (List.map I (List.replicate (Int.toNat (ctx1.length : Int)) 0))),(4,.box [.nils,.rs 3,.rs 20,I 0,.nils]),(20,.arr (List.map K06 [])),(21,.arr (List.map K10 [])),(22,.arr (List.map K10 []))])))
  rcases fl with ⟨a2,a3,a4⟩ | r
  ·refine WpL.into (e := (.exit 0)) (mkS [(1,sL ctx1),(3,.ra 1 0),(5,.ra 2 0),(7,.ra 4 0),(8,.rs 21),(9,.rs 22)] [(1,K20 p0),(2,K1u t2),(3,.arr (List.map I (List.replicate (Int.toNat (ctx1.length : Int)) 0))),(4,.box [.nils,.rs 3,.rs 20,I 0,.nils]),(20,.arr (List.map K06 a2)),(21,.arr (List.map K10 a3)),(22,.arr (List.map K10 a4))]) hL ?_
   refine Qc7 ?_
   refine sN ?_
   refine vz 21 (K14 a3) [(1,sL ctx1),(3,.ra 1 0),(5,.ra 2 0),(7,.ra 4 0),(8,sL a3),(9,.rs 22)] [(1,K20 p0),(2,K1u t2),(3,.arr (List.map I (List.replicate (Int.toNat (ctx1.length : Int)) 0))),(4,.box [.nils,.rs 3,.rs 20,I 0,.nils]),(20,.arr (List.map K06 a2)),(22,.arr (List.map K10 a4))] ?_
   refine vz 22 (K14 a4) [(1,sL ctx1),(3,.ra 1 0),(5,.ra 2 0),(7,.ra 4 0),(8,sL a3),(9,sL a4)] [(1,K20 p0),(2,K1u t2),(3,.arr (List.map I (List.replicate (Int.toNat (ctx1.length : Int)) 0))),(4,.box [.nils,.rs 3,.rs 20,I 0,.nils]),(20,.arr (List.map K06 a2))] ?_
   obtain ⟨⟨a5,a6⟩,a7,h⟩ := Qct h
   refine rg hc none [oN,oN,oN,oN,oN,oN,oN,some (.call (I a5) [.undef,.optr [sI a6.fty,sI a6.fneeds,.sl (List.map K06 a6.fkids),I a6.ffault,sI a6.fpath],.undef,.undef,.undef,.undef] 1),oN,oN,oN] [(7,.ra 4 0)] [(4,.box [sI a6.fty,sI a6.fneeds,.sl (List.map K06 a6.fkids),I a5,sI a6.fpath])] (ab (Kn3 _ _ a7) K7s tv) ?_
   refine sN ?_
   refine K8k hc 5 [(7,.ra 4 0),(163,.bool (a5 != 0))] ?_
   refine ic h (fun a8 h => ?_) fun a8 h => ?_
   ·refine rs hc none [oN,oN,oN,oN,oN,some (.new 60),oN] [(6,.ra 60 0)] [(60,.box [.nils,.nils,.nils,I a5,.nils])] tv ?_
    refine vb 60 [.nils,.nils,.nils,I a5,.nils] [(6,.ptr [.sl (List.map I []),.sl (List.map I []),.sl (List.map K06 []),I a5,.sl (List.map I [])] 0)] [] ?_
    refine rt ?_
    obtain rfl := os h
    exact rq [false]
   refine sk ?_
   refine K8k hc 2 [(6,.ra 4 0)] ?_
   refine vb 4 [sI a6.fty,sI a6.fneeds,.sl (List.map K06 a6.fkids),I a5,sI a6.fpath] [(6,.ptr [sI a6.fty,sI a6.fneeds,.sl (List.map K06 a6.fkids),I a5,sI a6.fpath] 0)] [] ?_
   refine rt ?_
   obtain rfl := os h
   exact rq [false]
  refine WpL.mono hL ?_
  rintro _ _ ⟨rfl,hfin⟩
  obtain rfl := os h
  exact ⟨.inl rfl,hfin⟩
 ·rintro impl_typertyp_f impl_typertyp_l0_f impl_typertyp_ih impl_typertyp_l0_ih ⟨p0,ctx1,t2,a9,b1,b2,b3⟩ r h
  intro c hc
  refine WpL.step ?_
  refine K8k hc 1 [(1,sL ctx1),(3,.ra 1 0),(5,.ra 2 0),(7,.ra 4 0),(8,.rs 21),(9,.rs 22),(22,.sl (List.map K0g t2.fKids)),(23,I (t2.fKids.length : Int)),(24,I b3),(25,.bool (decide (b3 < (t2.fKids.length : Int))))] ?_
  refine sN ?_
  refine ic h (fun b4 h => ?_) fun b4 h => ?_
  ·refine sk ?_
   refine sN ?_
   refine bk 1 ?_
   obtain ⟨b5,b6,h⟩ := Qct h
   refine rs hc none [oN,some (.el (K1v b5)),oN,some (.new 40),oN,oN] [(1,sL ctx1),(3,.ra 1 0),(5,.ra 2 0),(7,.ra 4 0),(8,.rs 21),(9,.rs 22),(10,I b3),(11,.ra 40 0),(22,.sl (List.map K0g t2.fKids)),(23,I (t2.fKids.length : Int)),(24,I b3)] [(1,K20 p0),(2,K1u t2),(3,.arr (List.map I (List.replicate (Int.toNat (ctx1.length : Int)) 0))),(4,.box [.nils,.rs 3,.rs 20,I 0,.nils]),(20,.arr (List.map K06 a9)),(21,.arr (List.map K10 b1)),(22,.arr (List.map K10 b2)),(40,K1u b5)] (ai (Qcx b6 (K0n b5)) tv) ?_
   refine K8k hc 1 [(1,sL ctx1),(3,.ra 1 0),(5,.ra 2 0),(7,.ra 4 0),(8,.rs 21),(9,.rs 22),(10,I b3),(11,.ra 40 0),(12,.nils),(22,.sl (List.map K0g t2.fKids)),(23,I (t2.fKids.length : Int)),(24,I b3)] ?_
   refine sN ?_
   refine sN ?_
   obtain ⟨b7,b8,h⟩ := Qct h
   refine Wp.into (x := .normal) (mkS [(1,sL ctx1),(3,.ra 1 0),(5,.ra 2 0),(7,.ra 4 0),(8,.rs 21),(9,.rs 22),(10,I b3),(11,.ra 40 0),(12,.nils),(22,.sl (List.map K0g t2.fKids)),(23,I (t2.fKids.length : Int)),(24,I b3),(35,.bool b7)] [(1,K20 p0),(2,K1u t2),(3,.arr (List.map I (List.replicate (Int.toNat (ctx1.length : Int)) 0))),(4,.box [.nils,.rs 3,.rs 20,I 0,.nils]),(20,.arr (List.map K06 a9)),(21,.arr (List.map K10 b1)),(22,.arr (List.map K10 b2)),(40,K1u b5)]) ?_ ?_
   ·replace h := b8
    rcases is h with ⟨b9,h⟩ | ⟨b9,h⟩
    ·refine rgs hc none [oN,oN,oN,o_,o_,o_,oT] [(1,sL ctx1),(3,.ra 1 0),(5,.ra 2 0),(7,.ra 4 0),(8,.rs 21),(9,.rs 22),(10,I b3),(11,.ra 40 0),(12,.nils),(22,.sl (List.map K0g t2.fKids)),(23,I (t2.fKids.length : Int)),(24,I b3),(35,.bool true)] (ar 3 (neF b9) (ai b9 tv)) ?_
     obtain rfl := os h
     exact Qcf.mk
    refine rgs hc none [oN,oN,oN,oN,oN,oN,oF] [(1,sL ctx1),(3,.ra 1 0),(5,.ra 2 0),(7,.ra 4 0),(8,.rs 21),(9,.rs 22),(10,I b3),(11,.ra 40 0),(12,.nils),(22,.sl (List.map K0g t2.fKids)),(23,I (t2.fKids.length : Int)),(24,I b3),(35,.bool (t2.fOp == 9))] (ar 4 b9 tv) ?_
    obtain rfl := os h
    exact Qcf.mk
   clear b8
   obtain ⟨c0,c1,h⟩ := Qct h
   refine Wp.into (x := .normal) (mkS [(1,sL ctx1),(3,.ra 1 0),(5,.ra 2 0),(7,.ra 4 0),(8,.rs 21),(9,.rs 22),(10,I b3),(11,.ra 40 0),(12,.rs 41),(22,.sl (List.map K0g t2.fKids)),(23,I (t2.fKids.length : Int)),(24,I b3)] [(1,K20 p0),(2,K1u t2),(3,.arr (List.map I (List.replicate (Int.toNat (ctx1.length : Int)) 0))),(4,.box [.nils,.rs 3,.rs 20,I 0,.nils]),(20,.arr (List.map K06 a9)),(21,.arr (List.map K10 b1)),(22,.arr (List.map K10 b2)),(40,K1u b5),(41,.arr (List.map K10 c0))]) ?_ ?_
   ·replace h := c1
    refine ic h (fun c2 h => ?_) fun c2 h => ?_
    ·refine K8k hc 1 [(1,sL ctx1),(3,.ra 1 0),(5,.ra 2 0),(7,.ra 4 0),(8,.rs 21),(9,.rs 22),(10,I b3),(11,.ra 40 0),(13,.nils),(22,.sl (List.map K0g t2.fKids)),(23,I (t2.fKids.length : Int)),(24,I b3)] ?_
     refine sN ?_
     refine K8k hc 2 [(1,sL ctx1),(3,.ra 1 0),(5,.ra 2 0),(7,.ra 4 0),(8,.rs 21),(9,.rs 22),(10,I b3),(11,.ra 40 0),(13,.nils),(22,.sl (List.map K0g t2.fKids)),(23,I (t2.fKids.length : Int)),(24,I b3),(37,.bool (decide (b3 > 0)))] ?_
     obtain ⟨c3,c4,h⟩ := Qct h
     refine Wp.into (x := .normal) (mkS [(1,sL ctx1),(3,.ra 1 0),(5,.ra 2 0),(7,.ra 4 0),(8,.rs 21),(9,.rs 22),(10,I b3),(11,.ra 40 0),(13,sI c3),(22,.sl (List.map K0g t2.fKids)),(23,I (t2.fKids.length : Int)),(24,I b3)] [(1,K20 p0),(2,K1u t2),(3,.arr (List.map I (List.replicate (Int.toNat (ctx1.length : Int)) 0))),(4,.box [.nils,.rs 3,.rs 20,I 0,.nils]),(20,.arr (List.map K06 a9)),(21,.arr (List.map K10 b1)),(22,.arr (List.map K10 b2)),(40,K1u b5)]) ?_ ?_
     ·replace h := c4
      refine ic h (fun c5 h => ?_) fun c5 h => ?_
      ·obtain ⟨c6,c7,h⟩ := Qct h
       refine rgs hc none [oN,oN,oN,oN,oN,some (.el (.ptr [sI c6.fty,sI c6.fneeds,.sl (List.map K06 c6.fkids),I c6.ffault,sI c6.fpath] 0)),oN,oN,oN,oN] [(1,sL ctx1),(3,.ra 1 0),(5,.ra 2 0),(7,.ra 4 0),(8,.rs 21),(9,.rs 22),(10,I b3),(11,.ra 40 0),(13,sI c6.fty),(22,.sl (List.map K0g t2.fKids)),(23,I (t2.fKids.length : Int)),(24,I b3)] (ab (Qcy (enc := K06) c7) (Qcx (enc := K06) (x := .ptr [sI c6.fty,sI c6.fneeds,.sl (List.map K06 c6.fkids),I c6.ffault,sI c6.fpath] 0) c7 (K09 c6)).2 tv) ?_
       obtain rfl := os h
       exact Qcf.mk
      refine sk ?_
      obtain rfl := os h
      exact Qcf.view (fun a w hv => SRx.renL [] (SRx.nilSL 13 hv (by kernel_rfl)) (by kernel_rfl) (by kernel_rfl) (by kernel_rfl))
     clear c4
     obtain ⟨c8,c9,h⟩ := Qct h
     refine rg hc none [oN,oN,oN,some (.call (.osl (List.map K10 c8)) [] 41),oN] [(1,sL ctx1),(3,.ra 1 0),(5,.ra 2 0),(7,.ra 4 0),(8,.rs 21),(9,.rs 22),(10,I b3),(11,.ra 40 0),(12,.rs 41),(22,.sl (List.map K0g t2.fKids)),(23,I (t2.fKids.length : Int)),(24,I b3)] [(1,K20 p0),(2,K1u t2),(3,.arr (List.map I (List.replicate (Int.toNat (ctx1.length : Int)) 0))),(4,.box [.nils,.rs 3,.rs 20,I 0,.nils]),(20,.arr (List.map K06 a9)),(21,.arr (List.map K10 b1)),(22,.arr (List.map K10 b2)),(40,K1u b5),(41,.arr (List.map K10 c8))] (cq (Kk0 _ _ c9) K6s tv) ?_
     obtain rfl := os h
     exact Qcf.mk
    refine sk ?_
    obtain rfl := os h
    exact Qcf.view (fun a w hv => SRx.renL [(41,42)] (SRx.nilTL 12 42 hv (by kernel_rfl) (by kernel_rfl)) (by kernel_rfl) (by kernel_rfl) (by kernel_rfl))
   clear c1
   refine sN ?_
   refine vz 41 (K14 c0) [(1,sL ctx1),(3,.ra 1 0),(5,.ra 2 0),(7,.ra 4 0),(8,.rs 21),(9,.rs 22),(10,I b3),(11,.ra 40 0),(12,sL c0),(22,.sl (List.map K0g t2.fKids)),(23,I (t2.fKids.length : Int)),(24,I b3)] [(1,K20 p0),(2,K1u t2),(3,.arr (List.map I (List.replicate (Int.toNat (ctx1.length : Int)) 0))),(4,.box [.nils,.rs 3,.rs 20,I 0,.nils]),(20,.arr (List.map K06 a9)),(21,.arr (List.map K10 b1)),(22,.arr (List.map K10 b2)),(40,K1u b5)] ?_
   obtain ⟨d0,d1,d2,d3,h⟩ := bq2 h
   refine rg hc (rx [[0],[0],[0],[0,1,2],[0,1,2,3],[0],[6],[7]]) [oN,oN,oN,some (.mk 44 false),some (.call (sL d0) [.tup []] 1),oN,oc (.ptr [sI d2.fty,sI d2.fneeds,.sl (List.map K06 d2.fkids),I d2.ffault,sI d2.fpath] 0),oN] [(1,sL ctx1),(3,.ra 1 0),(5,.ra 2 0),(7,.ra 4 0),(8,.rs 21),(9,.rs 22),(10,I b3),(12,sL c0),(14,.ptr [sI d2.fty,sI d2.fneeds,.sl (List.map K06 d2.fkids),I d2.ffault,sI d2.fpath] 0),(22,.sl (List.map K0g t2.fKids)),(23,I (t2.fKids.length : Int)),(24,I b3)] [(1,K20 p0),(2,K1u t2),(3,.arr (List.map I (List.replicate (Int.toNat (ctx1.length : Int)) 0))),(4,.box [.nils,.rs 3,.rs 20,I 0,.nils]),(20,.arr (List.map K06 a9)),(21,.arr (List.map K10 b1)),(22,.arr (List.map K10 b2))] (ab (Q71.args (A1 := [.sl (Q02 (List.map K1n [c0,ctx1]))]) (A2 := [.sl (List.map K1n [c0,ctx1])]) (by simp only [List.map_nil,K1r]) (Kke _ _ d1)) K6w (cq (impl_typertyp_ih _ _ d3) K6y tv)) ?_
   refine sN ?_
   refine K8k hc 5 [(1,sL ctx1),(3,.ra 1 0),(5,.ra 2 0),(7,.ra 4 0),(8,.rs 21),(9,.rs 22),(10,I b3),(12,sL c0),(14,.ptr [sI d2.fty,sI d2.fneeds,.sl (List.map K06 d2.fkids),I d2.ffault,sI d2.fpath] 0),(22,.sl (List.map K0g t2.fKids)),(23,I (t2.fKids.length : Int)),(24,I b3),(62,.bool (d2.ffault != 0))] ?_
   refine ic h (fun d4 h => ?_) fun d4 h => ?_
   ·obtain ⟨_,d5,h⟩ := Qct h
    refine rs hc (rx [[0],[1],[2],[3],[0],[0,4],[0],[0,6],[0,6,7],[0,6,7,8],[0,4,5,6,7,8,9],[11],[12],[13]]) [oN,oN,oN,oN,oN,some (.mk 45 true),oN,oN,oN,oN,some (.eqv (.mk 46 true) ⟨[(73,.rs 46)],[(46,some (rI ([b3] ++ d2.fpath))),(45,none)],[46]⟩),oN,some (.new 47),oN] [(6,.ra 47 0)] [(46,rI ([b3] ++ d2.fpath)),(47,.box [.nils,.nils,.nils,I d2.ffault,.rs 46])] (ab (congrArg (fun z => (⟨[(73,.rs 46)],[(46,some (.arr z)),(45,none)],[46]⟩ : Wr)) ((List.map_append).symm : (List.map I [b3]) ++ (List.map I d2.fpath) = List.map I ([b3] ++ d2.fpath))) (Qd7 (enc1 := I) (enc2 := I) (e1 := [b3]) (e2 := d2.fpath) (sz := 1) Qdg Qdg d5) tv) ?_
    refine vz 46 (Qdl ([b3] ++ d2.fpath)) [(6,.ra 47 0)] [(47,.box [.nils,.nils,.nils,I d2.ffault,sI ([b3] ++ d2.fpath)])] ?_
    refine vb 47 [.nils,.nils,.nils,I d2.ffault,sI ([b3] ++ d2.fpath)] [(6,.ptr [.sl (List.map I []),.sl (List.map I []),.sl (List.map K06 []),I d2.ffault,sI ([b3] ++ d2.fpath)] 0)] [] ?_
    refine rt ?_
    obtain rfl := os h
    exact re [false]
   refine sk ?_
   refine sN ?_
   obtain ⟨d6,d7,h⟩ := Qct h
   refine rss hc (rx [[0],[0],[0],[0],[0,3],[0,3,4],[0,3,4,5],[7],[8]]) [oN,oN,oN,oN,oN,oN,oN,oc (I d6),oN] [(1,sL ctx1),(3,.ra 1 0),(5,.ra 2 0),(7,.ra 4 0),(8,.rs 21),(9,.rs 22),(10,I b3),(12,sL c0),(14,.ptr [sI d2.fty,sI d2.fneeds,.sl (List.map K06 d2.fkids),I d2.ffault,sI d2.fpath] 0),(15,I d6),(22,.sl (List.map K0g t2.fKids)),(23,I (t2.fKids.length : Int)),(24,I b3)] (cq (Kki _ _ d7) K70 tv) ?_
   refine K8k hc 2 [(1,sL ctx1),(3,.ra 1 0),(5,.ra 2 0),(7,.ra 4 0),(8,.rs 21),(9,.rs 22),(10,I b3),(12,sL c0),(14,.ptr [sI d2.fty,sI d2.fneeds,.sl (List.map K06 d2.fkids),I d2.ffault,sI d2.fpath] 0),(15,I d6),(22,.sl (List.map K0g t2.fKids)),(23,I (t2.fKids.length : Int)),(24,I b3),(85,.bool (d6 != 0))] ?_
   refine ic h (fun d8 h => ?_) fun d8 h => ?_
   ·refine rs hc none [oN,oN,some (.new 48),oN] [(6,.ra 48 0)] [(48,.box [.nils,.nils,.nils,I d6,.nils])] tv ?_
    refine vb 48 [.nils,.nils,.nils,I d6,.nils] [(6,.ptr [.sl (List.map I []),.sl (List.map I []),.sl (List.map K06 []),I d6,.sl (List.map I [])] 0)] [] ?_
    refine rt ?_
    obtain rfl := os h
    exact re [false]
   refine sk ?_
   refine sN ?_
   refine sN ?_
   obtain ⟨d9,e0,h⟩ := Qct h
   refine Wp.into (x := .normal) (mkS [(1,sL ctx1),(3,.ra 1 0),(5,.ra 2 0),(7,.ra 4 0),(8,.rs 21),(9,.rs 22),(12,sL c0),(14,.ptr [sI d2.fty,sI d2.fneeds,.sl (List.map K06 d2.fkids),I d2.ffault,sI d2.fpath] 0),(22,.sl (List.map K0g t2.fKids)),(23,I (t2.fKids.length : Int)),(24,I b3),(115,.bool d9)] [(1,K20 p0),(2,K1u t2),(3,.arr (List.map I (List.replicate (Int.toNat (ctx1.length : Int)) 0))),(4,.box [.nils,.rs 3,.rs 20,I 0,.nils]),(20,.arr (List.map K06 a9)),(21,.arr (List.map K10 b1)),(22,.arr (List.map K10 b2))]) ?_ ?_
   ·replace h := e0
    rcases is h with ⟨e3,h⟩ | ⟨e3,h⟩
    ·rcases is h with ⟨e4,h⟩ | ⟨e4,h⟩
     ·obtain ⟨e5,e6,e7,e8,e9,f0,f1,f2,h⟩ := bq4 h
      refine rgs hc Kn5 [oN,oN,oN,oN,oN,oN,oT,oN,oN,oN,oN,oN,oN,oN,oN,oN,oN,some (.el (.ptr [sI e5.fty,sI e5.fneeds,.sl (List.map K06 e5.fkids),I e5.ffault,sI e5.fpath] 0)),oN,oN,oN,some (.call (.osl (List.map K10 e7)) [] 49),oN,some (.el (sI e9)),oc (.bool f1),oN,oT] [(1,sL ctx1),(3,.ra 1 0),(5,.ra 2 0),(7,.ra 4 0),(8,.rs 21),(9,.rs 22),(12,sL c0),(14,.ptr [sI d2.fty,sI d2.fneeds,.sl (List.map K06 d2.fkids),I d2.ffault,sI d2.fpath] 0),(22,.sl (List.map K0g t2.fKids)),(23,I (t2.fKids.length : Int)),(24,I b3),(115,.bool (!f1))] (ar 3 e3 (ar 9 e4 (ac (Qcy (enc := K06) e6) e4 (Qcx (enc := K06) (x := .ptr [sI e5.fty,sI e5.fneeds,.sl (List.map K06 e5.fkids),I e5.ffault,sI e5.fpath] 0) e6 (K09 e5)).2 (ar 4 e4 (cq (Kjx _ _ e8) K6q (ad e4 (Qcy (enc := K10) f0) e4 (xL f0).2 (ai e4 (cq (Kkp _ _ f2) K71 (ar 2 e4 tv))))))))) ?_
      obtain rfl := os h
      exact Qcf.mk
     refine rgs hc Kn5 [oN,oN,oN,oN,oN,oN,oT,oN,o_,o_,o_,o_,o_,o_,o_,o_,o_,o_,o_,o_,o_,o_,o_,o_,o_,o_,oF] [(1,sL ctx1),(3,.ra 1 0),(5,.ra 2 0),(7,.ra 4 0),(8,.rs 21),(9,.rs 22),(12,sL c0),(14,.ptr [sI d2.fty,sI d2.fneeds,.sl (List.map K06 d2.fkids),I d2.ffault,sI d2.fpath] 0),(22,.sl (List.map K0g t2.fKids)),(23,I (t2.fKids.length : Int)),(24,I b3),(115,.bool false)] (ar 3 e3 (ar 18 (neT e4) (ai e4 tv))) ?_
     obtain rfl := os h
     exact Qcf.mk
    refine rgs hc Kn5 [oN,oN,oN,oN,o_,o_,oF,oN,o_,o_,o_,o_,o_,o_,o_,o_,o_,o_,o_,o_,o_,o_,o_,o_,o_,o_,oF] [(1,sL ctx1),(3,.ra 1 0),(5,.ra 2 0),(7,.ra 4 0),(8,.rs 21),(9,.rs 22),(12,sL c0),(14,.ptr [sI d2.fty,sI d2.fneeds,.sl (List.map K06 d2.fkids),I d2.ffault,sI d2.fpath] 0),(22,.sl (List.map K0g t2.fKids)),(23,I (t2.fKids.length : Int)),(24,I b3),(115,.bool false)] (ar 2 (neT e3) (ai e3 (ar 18 (neT (rfl : false = false)) (ai (rfl : false = false) tv)))) ?_
    obtain rfl := os h
    exact Qcf.mk
   clear e0
   refine ic h (fun f3 h => ?_) fun f3 h => ?_
   ·refine rs hc none [oN,some (.new 50),oN] [(6,.ra 50 0)] [(50,.box [.nils,.nils,.nils,I 3,.nils])] tv ?_
    refine vb 50 [.nils,.nils,.nils,I 3,.nils] [(6,.ptr [.sl (List.map I []),.sl (List.map I []),.sl (List.map K06 []),I 3,.sl (List.map I [])] 0)] [] ?_
    refine rt ?_
    obtain rfl := os h
    exact re [false]
   refine sk ?_
   obtain ⟨_,f4,h⟩ := Qct h
   refine rs hc none [oN,oN,oN,oN,oN,oN,some (.eqv (.mk 51 false) ⟨[(124,.rs 51)],[(51,some (.arr (List.map K06 [d2])))],[51]⟩),some (.eqv (.mk 52 true) ⟨[(125,.rs 52)],[(52,some (.arr (List.map K06 (a9 ++ [d2])))),(20,none),(51,none)],[52]⟩),oN,oN,oN] [(1,sL ctx1),(3,.ra 1 0),(5,.ra 2 0),(7,.ra 4 0),(8,.rs 21),(9,.rs 22),(12,sL c0),(14,.ptr [sI d2.fty,sI d2.fneeds,.sl (List.map K06 d2.fkids),I d2.ffault,sI d2.fpath] 0),(22,.sl (List.map K0g t2.fKids)),(23,I (t2.fKids.length : Int)),(24,I b3)] [(1,K20 p0),(2,K1u t2),(3,.arr (List.map I (List.replicate (Int.toNat (ctx1.length : Int)) 0))),(4,.box [.nils,.rs 3,.rs 52,I 0,.nils]),(21,.arr (List.map K10 b1)),(22,.arr (List.map K10 b2)),(52,.arr (List.map K06 (a9 ++ [d2])))] (ac (congrArg (fun z => (⟨[(124,.rs 51)],[(51,some (.arr z))],[51]⟩ : Wr)) ((Qe0 (K09 d2) Qdz) : [AV.ptr [sI d2.fty,sI d2.fneeds,.sl (List.map K06 d2.fkids),I d2.ffault,sI d2.fpath] 0] = List.map K06 [d2])) (congrArg (fun z => (⟨[(125,.rs 52)],[(52,some (.arr z)),(20,none),(51,none)],[52]⟩ : Wr)) ((List.map_append).symm : (List.map K06 a9) ++ (List.map K06 [d2]) = List.map K06 (a9 ++ [d2]))) (Qd7 (enc1 := K06) (enc2 := K06) (e1 := a9) (e2 := [d2]) (sz := 1) K0c K0c f4) tv) ?_
   obtain ⟨f5,f6,_,f7,f8,f9,_,g0,h⟩ := bq4 h
   refine rg hc (rx [[0],[0],[0,1],[0,1,2],[0,1,2,3],[0],[0,5],[0,1,2,3,4,5,6],[0,1,2,3,4,5,6,7],[9],[0],[0],[0,11],[0,11,12],[0,11,12,13],[0],[0,15],[0,11,12,13,14,15,16],[0,11,12,13,14,15,16,17],[19],[20],[21]]) [oN,oN,oN,oN,oN,oN,some (.eqv (.no) ⟨[(134,I (c0.length : Int))],[],[]⟩),some (.eqv (.no) ⟨[(135,sI f5)],[],[]⟩),some (.mk 53 false),some (.eqv (.mk 54 true) ⟨[(137,.rs 54)],[(54,some (.arr (List.map K10 (b2 ++ [f5])))),(22,none),(53,none)],[54]⟩),oN,oN,oN,oN,oN,oN,some (.eqv (.no) ⟨[(144,I (c0.length : Int))],[],[]⟩),some (.eqv (.no) ⟨[(145,sI f8)],[],[]⟩),some (.mk 55 false),some (.eqv (.mk 56 true) ⟨[(147,.rs 56)],[(56,some (.arr (List.map K10 (b1 ++ [f8])))),(21,none),(55,none)],[56]⟩),oN,oN] [(1,sL ctx1),(3,.ra 1 0),(5,.ra 2 0),(7,.ra 4 0),(8,.rs 56),(9,.rs 54),(22,.sl (List.map K0g t2.fKids)),(23,I (t2.fKids.length : Int)),(24,I b3)] [(1,K20 p0),(2,K1u t2),(3,.arr (List.map I (List.replicate (Int.toNat (ctx1.length : Int)) 0))),(4,.box [.nils,.rs 3,.rs 52,I 0,.nils]),(52,.arr (List.map K06 (a9 ++ [d2]))),(54,.arr (List.map K10 (b2 ++ [f5]))),(56,.arr (List.map K10 (b1 ++ [f8])))] (ad (Qcz (d := 134) K10 c0) (Qd2 (d := 135) I f6) (Qd1 (enc := I) (sz := 1) Qdc f6) (congrArg (fun z => (⟨[(137,.rs 54)],[(54,some (.arr z)),(22,none),(53,none)],[54]⟩ : Wr)) ((List.map_append).symm : (List.map K10 b2) ++ (List.map K10 [f5]) = List.map K10 (b2 ++ [f5]))) (ad (Qd7 (enc1 := K10) (enc2 := K10) (e1 := b2) (e2 := [f5]) (sz := 1) K13 K13 f7) (Qcz (d := 144) K10 c0) (Qd2 (d := 145) I f9) (Qd1 (enc := I) (sz := 1) Qdc f9) (ab (congrArg (fun z => (⟨[(147,.rs 56)],[(56,some (.arr z)),(21,none),(55,none)],[56]⟩ : Wr)) ((List.map_append).symm : (List.map K10 b1) ++ (List.map K10 [f8]) = List.map K10 (b1 ++ [f8]))) (Qd7 (enc1 := K10) (enc2 := K10) (e1 := b1) (e2 := [f8]) (sz := 1) K13 K13 g0) tv))) ?_
   refine K8j hc 2 [(1,sL ctx1),(3,.ra 1 0),(5,.ra 2 0),(7,.ra 4 0),(8,.rs 56),(9,.rs 54),(22,.sl (List.map K0g t2.fKids)),(23,I (t2.fKids.length : Int)),(24,I (wr (b3 + 1)))] ?_
   refine Qcb ?_
   exact WpL.view (fun a w hv => SRx.renL [(20,52),(21,56),(22,54)] hv (by kernel_rfl) (by kernel_rfl) (by kernel_rfl)) (impl_typertyp_l0_ih _ _ h c hc)
  refine xt 0 ?_
  refine Qc5 ?_
  refine Qcc ?_
  obtain rfl := os h
  exact iv []
theorem Knc : ∀ p r,Kn7 p = some r → Kn9 p r := Knb.1
theorem Knd : ∀ p r,Kn8 p = some r → Kna p r := Knb.2
def Kne (p : K00 × LL × K01) : Option (Option K03) :=
 match p with
 | (s0,ctx1,t2) =>
  ((
  (Ki8 s0) >>= fun a0 =>
  if a0 = true then
  (Kj4 (s0,ctx1)) >>= fun a1 =>
  if a1 = true then
  (Kjo (s0,t2,(ctx1.length : Int))) >>= fun a2 =>
  some ((!a2))
  else
  some (true)
  else
  some (true)
  ) : Option (Bool)) >>= fun a3 =>
  if a3 = true then
  some none
  else
  (Kn7 ((K05.mk s0),ctx1,t2)) >>= fun a4 =>
  some (some a4)
def Knf (p : K00 × LL × K01) (r : Option K03) : Prop :=
 match p with
 | (s0,ctx1,t2) => Q71 Tryz.prog 76 [K1t s0,sL ctx1,K1v t2] (K0a r) []
theorem Kng : ∀ p r,Kne p = some r → Knf p r := by
 rintro ⟨s0,ctx1,t2⟩ r h
 unfold Kne at h
 refine b0 Tryz.f76 B76 29 [(0,K1t s0),(1,sL ctx1),(2,K1v t2)] fun c hc => ?_
 refine rs hc none [some (.new 1),some (.new 2),oN] [(1,sL ctx1),(3,.ra 1 0),(5,.ra 2 0)] [(1,K1s s0),(2,K1u t2)] tv ?_
 refine sN ?_
 refine sN ?_
 obtain ⟨a0,a1,h⟩ := Qct h
 refine Wp.into (x := .normal) (mkS [(1,sL ctx1),(3,.ra 1 0),(5,.ra 2 0),(23,.bool a0)] [(1,K1s s0),(2,K1u t2)]) ?_ ?_
 ·replace h := a1
  obtain ⟨a2,a3,h⟩ := Qct h
  rcases is h with ⟨a4,h⟩ | ⟨a4,h⟩
  ·obtain ⟨a5,a6,h⟩ := Qct h
   rcases is h with ⟨a7,h⟩ | ⟨a7,h⟩
   ·obtain ⟨a8,a9,h⟩ := Qct h
    refine rgs hc none [oN,oc (.bool a2),oN,oN,oN,oN,oc (.bool a5),oN,oF,oN,oN,oN,oN,some (.eqv (.no) ⟨[(20,I (ctx1.length : Int))],[],[]⟩),oc (.bool a8),oN,oF] [(1,sL ctx1),(3,.ra 1 0),(5,.ra 2 0),(23,.bool (!a8))] (cq (Kia _ _ a3) K5y (ar 3 (nF a4) (cq (Kj6 _ _ a6) K6e (ar 2 (nF a4) (ar 4 (nF a7) (ab (Qcz (d := 20) K10 ctx1) (nF a7) (cq (Kjq _ _ a9) K6o (ar 2 (nF a7) tv)))))))) ?_
    obtain rfl := os h
    exact Qcf.mk
   refine rgs hc none [oN,oc (.bool a2),oN,oN,oN,oN,oc (.bool a5),oN,oF,oN,o_,o_,o_,o_,o_,o_,oT] [(1,sL ctx1),(3,.ra 1 0),(5,.ra 2 0),(23,.bool true)] (cq (Kia _ _ a3) K5y (ar 3 (nF a4) (cq (Kj6 _ _ a6) K6e (ar 2 (nF a4) (ar 6 (neF (nT a7)) (ai (nT a7) tv)))))) ?_
   obtain rfl := os h
   exact Qcf.mk
  refine rgs hc none [oN,oc (.bool a2),oN,oN,o_,o_,o_,o_,oT,oN,o_,o_,o_,o_,o_,o_,oT] [(1,sL ctx1),(3,.ra 1 0),(5,.ra 2 0),(23,.bool true)] (cq (Kia _ _ a3) K5y (ar 4 (neF (nT a4)) (ai (nT a4) (ar 6 nf (ai tt tv))))) ?_
  obtain rfl := os h
  exact Qcf.mk
 clear a1
 refine ic h (fun b1 h => ?_) fun b1 h => ?_
 ·refine rs0 hc 1 [(6,.nilp)] [] ?_
  refine rt ?_
  obtain rfl := os h
  exact rq [false]
 refine sk ?_
 obtain ⟨b2,b3,h⟩ := Qct h
 refine rs hc none [oN,oN,oN,oN,oc (.ptr [sI b2.fty,sI b2.fneeds,.sl (List.map K06 b2.fkids),I b2.ffault,sI b2.fpath] 0),oN] [(6,.ptr [sI b2.fty,sI b2.fneeds,.sl (List.map K06 b2.fkids),I b2.ffault,sI b2.fpath] 0)] [] (cq (Knc _ _ b3) K6y tv) ?_
 refine rt ?_
 obtain rfl := os h
 exact rq [false]
def Knh (p : K00 × LL × K01) : Option ((List Int) × (List Int) × Bool) :=
 match p with
 | (s0,ctx1,t2) =>
  (Kne (s0,ctx1,t2)) >>= fun a0 =>
  match a0 with
  | none =>
   some ([],[],false)
  | some a1 =>
   if (a1.ffault != 0) = true then
   some ([],[],false)
   else
   (Kkq a1.fty) >>= fun a2 =>
   (Kkq a1.fneeds) >>= fun a3 =>
   some (a2,a3,true)
def Kni (p : K00 × LL × K01) (r : (List Int) × (List Int) × Bool) : Prop :=
 match p with
 | (s0,ctx1,t2) => Q71 Tryz.prog 22 [K1t s0,sL ctx1,K1v t2] (.tup [oI r.1,.osl (List.map I r.2.1),.bool r.2.2]) []
theorem Knj : ∀ p r,Knh p = some r → Kni p r := by
 rintro ⟨s0,ctx1,t2⟩ r h
 unfold Knh at h
 refine b0 Tryz.f22 B22 33 [(0,K1t s0),(1,sL ctx1),(2,K1v t2)] fun c hc => ?_
 refine rs hc none [some (.new 1),some (.new 2),oN,oN,oN] [(1,sL ctx1),(3,.ra 1 0),(5,.ra 2 0)] [(1,K1s s0),(2,K1u t2)] tv ?_
 refine sN ?_
 obtain ⟨a0,a1,h⟩ := Qct h
 rcases a0 with _ | a2
 ·refine rg hc none [oN,oN,oN,oc (.nilp),oN] [(9,.nilp)] [] (cq (Kng _ _ a1) K7t tv) ?_
  refine sN ?_
  refine rs hc none [oN,oN,oN,o_,o_,o_,o_,o_,oT] [(9,.nilp),(22,.bool true)] [] (ar 5 nf (ai tt tv)) ?_
  refine cT true (rfl : true = true) ?_
  refine rs0 hc 3 [(6,.nils),(7,.nils),(8,.bool false)] [] ?_
  refine rt ?_
  obtain rfl := os h
  exact rq [true,true,true]
 refine rg hc none [oN,oN,oN,oc (.ptr [sI a2.fty,sI a2.fneeds,.sl (List.map K06 a2.fkids),I a2.ffault,sI a2.fpath] 0),oN] [(9,.ptr [sI a2.fty,sI a2.fneeds,.sl (List.map K06 a2.fkids),I a2.ffault,sI a2.fpath] 0)] [] (cq (Kng _ _ a1) K7t tv) ?_
 refine sN ?_
 refine rs hc none [oN,oN,oN,oN,oN,oN,oN,oN,oF] [(9,.ptr [sI a2.fty,sI a2.fneeds,.sl (List.map K06 a2.fkids),I a2.ffault,sI a2.fpath] 0),(22,.bool (a2.ffault != 0))] [] (ar 6 (rfl : false = false) tv) ?_
 refine ic h (fun a3 h => ?_) fun a3 h => ?_
 ·refine rs0 hc 3 [(6,.nils),(7,.nils),(8,.bool false)] [] ?_
  refine rt ?_
  obtain rfl := os h
  exact rq [true,true,true]
 refine sk ?_
 obtain ⟨a4,a5,a6,a7,h⟩ := bq2 h
 refine rs hc (rx [[0],[1],[2],[3],[4],[0],[0,5],[0,5,6],[0,5,6,7],[9],[10],[11],[12]]) [oN,oN,oN,oN,some (.call (oI a4) [] 3),oN,oN,oN,oN,some (.call (oI a6) [] 4),oN,oN,oN] [(6,.rs 3),(7,.rs 4),(8,.bool true)] [(3,rI a4),(4,rI a6)] (cq (Kks _ _ a5) K72 (cq (Kks _ _ a7) K72 tv)) ?_
 refine rt ?_
 obtain rfl := os h
 exact rq [true,true,true]
def Knk (c : Ctx) : (Unit) ⊕ (Bool) → Exit → Q0a → Prop
 | .inl _ => Qcf c (.exit 0) (mkS [] [])
 | .inr r => Qco TIx Tryz.f36 [] (.bool r)
def Knl (p : K00 × (List Int) × (List Int) × Int) : Option ((Unit) ⊕ (Bool)) :=
 match p with
 | (s0,budgets2,a0,a1) =>
  if (decide (a1 < (budgets2.length : Int))) = true then
  (idx budgets2 a1) >>= fun a2 =>
  ((
  (Kgw (s0,a2)) >>= fun a3 =>
  if a3 = true then
  (idx a0 a1) >>= fun a4 =>
  (Kh5 (s0,a4,a2)) >>= fun a5 =>
  some ((!a5))
  else
  some (true)
  ) : Option (Bool)) >>= fun a6 =>
  if a6 = true then
  some (.inr false)
  else
  Knl (s0,budgets2,a0,(wr (a1 + 1)))
  else
  some (.inl ())
 partial_fixpoint
def Knm (p : K00 × (List Int) × (List Int) × Int) (fl : (Unit) ⊕ (Bool)) : Prop :=
 match p with
 | (s0,budgets2,a0,a1) => ∀ c : Ctx,c.nt = 61 → WpL Tryz.prog c (cl (cl (cr (cl (cr (cr (cr B36))))))) (Knk c fl) (mkS [(5,.ra 1 0),(12,.rs 4),(39,sI budgets2),(40,I (budgets2.length : Int)),(41,I a1)] [(1,K1s s0),(4,rI a0)])
theorem Knn : ∀ p r,Knl p = some r → Knm p r := by
 refine Knl.partial_correctness Knm ?_
 rintro impl_Fits_l0_f impl_Fits_l0_ih ⟨s0,budgets2,a0,a1⟩ r h
 intro c hc
 refine WpL.step ?_
 refine K8k hc 1 [(5,.ra 1 0),(12,.rs 4),(39,sI budgets2),(40,I (budgets2.length : Int)),(41,I a1),(42,.bool (decide (a1 < (budgets2.length : Int))))] ?_
 refine sN ?_
 refine ic h (fun a2 h => ?_) fun a2 h => ?_
 ·refine sk ?_
  refine sN ?_
  refine bk 1 ?_
  obtain ⟨a3,a4,h⟩ := Qct h
  refine rss hc none [oN,some (.el (I a3)),oN,oN,oN] [(5,.ra 1 0),(12,.rs 4),(14,I a1),(15,I a3),(39,sI budgets2),(40,I (budgets2.length : Int)),(41,I a1)] (ai (ix a4) tv) ?_
  refine sN ?_
  obtain ⟨a5,a6,h⟩ := Qct h
  refine Wp.into (x := .normal) (mkS [(5,.ra 1 0),(12,.rs 4),(39,sI budgets2),(40,I (budgets2.length : Int)),(41,I a1),(59,.bool a5)] [(1,K1s s0),(4,rI a0)]) ?_ ?_
  ·replace h := a6
   obtain ⟨a7,a8,h⟩ := Qct h
   rcases is h with ⟨a9,h⟩ | ⟨a9,h⟩
   ·obtain ⟨b1,b2,b3,b4,h⟩ := bq2 h
    refine rgs hc Kn6 [oN,oN,oc (.bool a7),oN,oN,oN,oN,oN,oN,some (.el (I b1)),oN,oc (.bool b3),oN,oF] [(5,.ra 1 0),(12,.rs 4),(39,sI budgets2),(40,I (budgets2.length : Int)),(41,I a1),(59,.bool (!b3))] (cq (Kgy _ _ a8) K5n (ar 4 (nF a9) (ac (Qcy (enc := I) b2) (nF a9) (ix b2).2 (ar 2 (nF a9) (cq (Kh7 _ _ b4) K5s (ar 2 (nF a9) tv)))))) ?_
    obtain rfl := os h
    exact Qcf.mk
   refine rgs hc Kn6 [oN,oN,oc (.bool a7),oN,oN,o_,o_,o_,o_,o_,o_,o_,o_,oT] [(5,.ra 1 0),(12,.rs 4),(39,sI budgets2),(40,I (budgets2.length : Int)),(41,I a1),(59,.bool true)] (cq (Kgy _ _ a8) K5n (ar 8 (neF (nT a9)) (ai (nT a9) tv))) ?_
   obtain rfl := os h
   exact Qcf.mk
  clear a6
  refine ic h (fun b5 h => ?_) fun b5 h => ?_
  ·refine rs0 hc 1 [(10,.bool false)] [] ?_
   refine rt ?_
   obtain rfl := os h
   exact re [true]
  refine sk ?_
  refine K8j hc 2 [(5,.ra 1 0),(12,.rs 4),(39,sI budgets2),(40,I (budgets2.length : Int)),(41,I (wr (a1 + 1)))] ?_
  refine Qcb ?_
  exact (impl_Fits_l0_ih _ _ h c hc)
 refine xt 0 ?_
 refine Qc5 ?_
 refine Qcc ?_
 obtain rfl := os h
 exact iv []
def Kno (p : K00 × LL × (List Int) × K01 × (List Int)) : Option (Bool) :=
 match p with
 | (s0,ctx1,budgets2,t3,ty4) =>
  (Knh (s0,ctx1,t3)) >>= fun (a0,a1,a2) =>
  ((
  if a2 = true then
   (Kkn (a0,ty4)) >>= fun a3 =>
   if a3 = true then
   some (((budgets2.length : Int) != (ctx1.length : Int)))
   else
   some (true)
  else
   some (true)
  ) : Option (Bool)) >>= fun a4 =>
  if a4 = true then
  some false
  else
  (Knl (s0,budgets2,a1,0)) >>= fun fl => match fl with
  | .inl () =>
   some true
  | .inr r =>
   some r
def Knp (p : K00 × LL × (List Int) × K01 × (List Int)) (r : Bool) : Prop :=
 match p with
 | (s0,ctx1,budgets2,t3,ty4) => Q71 Tryz.prog 36 [K1t s0,sL ctx1,sI budgets2,K1v t3,sI ty4] (.bool r) []
theorem Knq : ∀ p r,Kno p = some r → Knp p r := by
 rintro ⟨s0,ctx1,budgets2,t3,ty4⟩ r h
 unfold Kno at h
 refine b0 Tryz.f36 B36 61 [(0,K1t s0),(1,sL ctx1),(2,sI budgets2),(3,K1v t3),(4,sI ty4)] fun c hc => ?_
 refine rs hc none [some (.new 1),some (.new 2),oN] [(1,sL ctx1),(2,sI budgets2),(4,sI ty4),(5,.ra 1 0),(8,.ra 2 0)] [(1,K1s s0),(2,K1u t3)] tv ?_
 obtain ⟨⟨a0,a1,a2⟩,a3,h⟩ := Qct h
 refine rs hc none [oN,oN,oN,some (.call (.tup [oI a0,oI a1,.bool a2]) [] 3),oN,oN,oN,oN,oN,oN,oN] [(1,sL ctx1),(2,sI budgets2),(4,sI ty4),(5,.ra 1 0),(11,.rs 3),(12,.rs 4),(13,.bool a2)] [(1,K1s s0),(3,rI a0),(4,rI a1)] (cq (Knj _ _ a3) K7u tv) ?_
 refine sN ?_
 refine sN ?_
 obtain ⟨a4,a5,h⟩ := Qct h
 refine Wp.into (x := .normal) (mkS [(2,sI budgets2),(5,.ra 1 0),(12,.rs 4),(38,.bool a4)] [(1,K1s s0),(4,rI a1)]) ?_ ?_
 ·replace h := a5
  rcases is h with ⟨a6,h⟩ | ⟨a6,h⟩
  ·obtain ⟨a7,a8,h⟩ := Qct h
   rcases is h with ⟨a9,h⟩ | ⟨a9,h⟩
   ·refine rg hc none [oN,oN,oN,oN,oN,oc (.bool a7),oN,oF,oN,oN,some (.eqv (.no) ⟨[(34,I (budgets2.length : Int))],[],[]⟩),oN,some (.eqv (.no) ⟨[(36,I (ctx1.length : Int))],[],[]⟩),oN,oF] [(2,sI budgets2),(5,.ra 1 0),(12,.rs 4),(38,.bool ((budgets2.length : Int) != (ctx1.length : Int)))] [(1,K1s s0),(4,rI a1)] (ar 3 (nF a6) (ac (Q71.args (A1 := [.sl (Q02 (List.map I a0)),sI ty4]) (A2 := [sI a0,sI ty4]) (by simp only [List.map_nil,Qdl]) (Kkp _ _ a8)) K71 (Or.inr rfl : ([3] : List Nat) = [] ∨ noSh (.bool a7) = true) (ar 2 (nF a6) (ar 2 (nF a9) (ai (Qcz (d := 34) I budgets2) (ar 2 (nF a9) (ai (Qcz (d := 36) K10 ctx1) (ar 2 (nF a9) tv)))))))) ?_
    obtain rfl := os h
    exact Qcf.mk
   refine rg hc none [oN,oN,oN,oN,oN,oc (.bool a7),oN,oF,oN,o_,o_,o_,o_,o_,oT] [(2,sI budgets2),(5,.ra 1 0),(12,.rs 4),(38,.bool true)] [(1,K1s s0),(4,rI a1)] (ar 3 (nF a6) (ac (Q71.args (A1 := [.sl (Q02 (List.map I a0)),sI ty4]) (A2 := [sI a0,sI ty4]) (by simp only [List.map_nil,Qdl]) (Kkp _ _ a8)) K71 (Or.inr rfl : ([3] : List Nat) = [] ∨ noSh (.bool a7) = true) (ar 2 (nF a6) (ar 5 (neF (nT a9)) (ai (nT a9) tv))))) ?_
   obtain rfl := os h
   exact Qcf.mk
  refine rg hc none [oN,oN,oN,o_,o_,o_,o_,oT,oN,o_,o_,o_,o_,o_,oT] [(2,sI budgets2),(5,.ra 1 0),(12,.rs 4),(38,.bool true)] [(1,K1s s0),(4,rI a1)] (ar 4 (neF (nT a6)) (ai (nT a6) (ar 5 nf (ai tt tv)))) ?_
  obtain rfl := os h
  exact Qcf.mk
 clear a5
 refine ic h (fun b1 h => ?_) fun b1 h => ?_
 ·refine rs0 hc 1 [(10,.bool false)] [] ?_
  refine rt ?_
  obtain rfl := os h
  exact rq [true]
 refine sk ?_
 refine sN ?_
 refine rss hc none [oN,some (.eqv (.no) ⟨[(40,I (budgets2.length : Int))],[],[]⟩),oN] [(5,.ra 1 0),(12,.rs 4),(39,sI budgets2),(40,I (budgets2.length : Int)),(41,I 0)] (ai (Qcz (d := 40) I budgets2) tv) ?_
 refine bk 0 ?_
 obtain ⟨fl,b2,h⟩ := Qct h
 have hL := Knn _ _ b2 c hc
 refine lp ?_
 rcases fl with ⟨⟩ | r
 ·refine WpL.into (e := (.exit 0)) (mkS [] []) hL ?_
  refine Qc7 ?_
  refine rs0 hc 1 [(10,.bool true)] [] ?_
  refine rt ?_
  obtain rfl := os h
  exact rq [true]
 refine WpL.mono hL ?_
 rintro _ _ ⟨rfl,hfin⟩
 obtain rfl := os h
 exact ⟨.inl rfl,hfin⟩
def Knr (c : Ctx) (t0 : K01) (a0 : List Int) : (List K01) → Exit → Q0a → Prop
 | a1 => Qcf c (.exit 0) (mkS [(2,.ra 2 0),(3,.ra 4 0)] [(2,.box [I 0,I 0,.nils,.nils]),(3,rI a0),(4,.box [I t0.fOp,I t0.fN,.rs 3,.rs 10]),(10,.arr (List.map K0j a1))])
mutual
def Kns (t0 : K01) : Option (K01) :=
 (Kkq t0.fType) >>= fun a0 =>
 (Knt (t0,a0,[],0)) >>= fun a1 =>
 some (K01.mk t0.fOp t0.fN a0 a1)
 partial_fixpoint
def Knt (p : K01 × (List Int) × (List K01) × Int) : Option ((List K01)) :=
 match p with
 | (t0,a0,a1,a2) =>
  if (decide (a2 < (t0.fKids.length : Int))) = true then
  (idx t0.fKids a2) >>= fun a3 =>
  (Kns a3) >>= fun a4 =>
  (Qd6 (a1.length + [a4].length) 64) >>= fun _ =>
  Knt (t0,a0,(a1 ++ [a4]),(wr (a2 + 1)))
  else
  some (a1)
 partial_fixpoint
end
def Knu (t0 : K01) (r : K01) : Prop :=
 Q71 Tryz.prog 96 [K1v t0] (K24 r) []
def Knv (p : K01 × (List Int) × (List K01) × Int) (fl : (List K01)) : Prop :=
 match p with
 | (t0,a0,a1,a2) => ∀ c : Ctx,c.nt = 30 → WpL Tryz.prog c (cl (cl (cr (cl (cr (cr B96)))))) (Knr c t0 a0 fl) (mkS [(2,.ra 2 0),(3,.ra 4 0),(15,.sl (List.map K0g t0.fKids)),(16,I (t0.fKids.length : Int)),(17,I a2)] [(2,.box [I 0,I 0,.nils,.nils]),(3,rI a0),(4,.box [I t0.fOp,I t0.fN,.rs 3,.rs 10]),(10,.arr (List.map K0j a1))])
theorem Knw : (∀ p r,Kns p = some r → Knu p r) ∧ (∀ p r,Knt p = some r → Knv p r) := by
 refine Kns.mutual_partial_correctness Knu Knv ?_ ?_
 ·rintro impl_copyTerm_l0_f impl_copyTerm_l0_ih t0 r h
  refine b0 Tryz.f96 B96 30 [(0,K1v t0)] fun c hc => ?_
  refine rs hc none [some (.new 1),some (.new 2)] [(1,.ra 1 0),(2,.ra 2 0)] [(1,K1u t0),(2,.box [I 0,I 0,.nils,.nils])] tv ?_
  obtain ⟨a0,a1,h⟩ := Qct h
  refine rs hc (rx [[0],[1],[0],[0,2],[0],[0,4],[0,4,5],[7],[0],[9]]) [oN,oN,oN,oN,oN,oN,some (.call (oI a0) [] 3),oN,some (.new 4),oN] [(1,.ra 1 0),(2,.ra 2 0),(3,.ra 4 0)] [(1,K1u t0),(2,.box [I 0,I 0,.nils,.nils]),(3,rI a0),(4,.box [I t0.fOp,I t0.fN,.rs 3,.nils])] (cq (Kks _ _ a1) K72 tv) ?_
  refine sN ?_
  refine rs hc none [oN,oN,some (.eqv (.no) ⟨[(16,I (t0.fKids.length : Int))],[],[]⟩),oN] [(2,.ra 2 0),(3,.ra 4 0),(15,.sl (List.map K0g t0.fKids)),(16,I (t0.fKids.length : Int)),(17,I 0)] [(2,.box [I 0,I 0,.nils,.nils]),(3,rI a0),(4,.box [I t0.fOp,I t0.fN,.rs 3,.nils])] (ai (Qcz (d := 16) K0g t0.fKids) tv) ?_
  refine bk 0 ?_
  obtain ⟨a2,a3,h⟩ := Qct h
  have hL := impl_copyTerm_l0_ih _ _ a3 c hc
  refine Wp.loopN (by kernel_rfl) (WpL.view (fun a w hv => SRx.renL [(10,21)] (SRx.nilBL 4 3 21 [I t0.fOp,I t0.fN,.rs 3,.nils] hv (by kernel_rfl) (by kernel_rfl) (by kernel_rfl)) (by kernel_rfl) (by kernel_rfl) (by kernel_rfl)) (?_ : WpL _ c _ _ (mkS [(2,.ra 2 0),(3,.ra 4 0),(15,.sl (List.map K0g t0.fKids)),(16,I (t0.fKids.length : Int)),(17,I 0)] [(2,.box [I 0,I 0,.nils,.nils]),(3,rI a0),(4,.box [I t0.fOp,I t0.fN,.rs 3,.rs 10]),(10,.arr (List.map K0j []))])))
  refine WpL.into (e := (.exit 0)) (mkS [(2,.ra 2 0),(3,.ra 4 0)] [(2,.box [I 0,I 0,.nils,.nils]),(3,rI a0),(4,.box [I t0.fOp,I t0.fN,.rs 3,.rs 10]),(10,.arr (List.map K0j a2))]) hL ?_
  refine Qc7 ?_
  refine rs0 hc 2 [(2,.ra 2 0)] [(2,.box [I t0.fOp,I t0.fN,.rs 3,.rs 10]),(3,rI a0),(10,.arr (List.map K0j a2))] ?_
  refine rt ?_
  obtain rfl := os h
  exact rq [true]
 ·rintro impl_copyTerm_f impl_copyTerm_l0_f impl_copyTerm_ih impl_copyTerm_l0_ih ⟨t0,a0,a4,a5⟩ r h
  intro c hc
  refine WpL.step ?_
  refine K8k hc 1 [(2,.ra 2 0),(3,.ra 4 0),(15,.sl (List.map K0g t0.fKids)),(16,I (t0.fKids.length : Int)),(17,I a5),(18,.bool (decide (a5 < (t0.fKids.length : Int))))] ?_
  refine sN ?_
  refine ic h (fun a6 h => ?_) fun a6 h => ?_
  ·refine sk ?_
   refine sN ?_
   refine bk 1 ?_
   obtain ⟨a7,a8,h⟩ := Qct h
   refine rs hc none [some (.el (K1v a7)),oN,some (.new 16),oN] [(2,.ra 2 0),(3,.ra 4 0),(5,.ra 16 0),(15,.sl (List.map K0g t0.fKids)),(16,I (t0.fKids.length : Int)),(17,I a5)] [(2,.box [I 0,I 0,.nils,.nils]),(3,rI a0),(4,.box [I t0.fOp,I t0.fN,.rs 3,.rs 10]),(10,.arr (List.map K0j a4)),(16,K1u a7)] (ai (Qcx a8 (K0n a7)) tv) ?_
   obtain ⟨a9,b1,_,b2,h⟩ := bq2 h
   refine rg hc (rx [[0],[1],[0],[0,2],[0,2,3],[5],[6],[7]]) [oN,oN,oN,some (.call (K24 a9) [] 17),some (.eqv (.mk 19 true) ⟨[(25,.rs 19)],[(19,some (.arr (List.map K0j [a9]))),(17,none),(18,none)],[19]⟩),some (.eqv (.mk 20 true) ⟨[(26,.rs 20)],[(20,some (.arr (List.map K0j (a4 ++ [a9])))),(10,none),(19,none)],[20]⟩),oN,oN] [(2,.ra 2 0),(3,.ra 4 0),(15,.sl (List.map K0g t0.fKids)),(16,I (t0.fKids.length : Int)),(17,I a5)] [(2,.box [I 0,I 0,.nils,.nils]),(3,rI a0),(4,.box [I t0.fOp,I t0.fN,.rs 3,.rs 20]),(20,.arr (List.map K0j (a4 ++ [a9])))] (cq (impl_copyTerm_ih _ _ b1) K7w (ac (congrArg (fun z => (⟨[(25,.rs 19)],[(19,some (.arr z)),(17,none),(18,none)],[19]⟩ : Wr)) ((Qe0 (K0p a9) Qdz) : [AV.agg [I a9.fOp,I a9.fN,oI a9.fType,AV.osl (List.map K0j a9.fKids)]] = List.map K0j [a9])) (congrArg (fun z => (⟨[(26,.rs 20)],[(20,some (.arr z)),(10,none),(19,none)],[20]⟩ : Wr)) ((List.map_append).symm : (List.map K0j a4) ++ (List.map K0j [a9]) = List.map K0j (a4 ++ [a9]))) (Qd7 (enc1 := K0j) (enc2 := K0j) (e1 := a4) (e2 := [a9]) (sz := 4) K1c K1c b2) tv)) ?_
   refine K8j hc 2 [(2,.ra 2 0),(3,.ra 4 0),(15,.sl (List.map K0g t0.fKids)),(16,I (t0.fKids.length : Int)),(17,I (wr (a5 + 1)))] ?_
   refine Qcb ?_
   exact WpL.view (fun a w hv => SRx.renL [(10,20)] hv (by kernel_rfl) (by kernel_rfl) (by kernel_rfl)) (impl_copyTerm_l0_ih _ _ h c hc)
  refine xt 0 ?_
  refine Qc5 ?_
  refine Qcc ?_
  obtain rfl := os h
  exact iv []
theorem Knx : ∀ p r,Kns p = some r → Knu p r := Knw.1
theorem Kny : ∀ p r,Knt p = some r → Knv p r := Knw.2
def Knz : Option (List (List Nat)) := rx [[0],[0],[2],[3],[0],[0],[0,4,5],[0,4,5,6],[8]]
def Ko0 : Option (List (List Nat)) := rx [[0],[0],[2],[3],[0],[0],[0,4,5],[0,4,5,6],[8],[9]]
def Ko1 (g0 : Int) : Option (Bool) :=
 (Kgt (g0,(-1),15)) >>= fun a0 =>
 some a0
def Ko2 (g0 : Int) (r : Bool) : Prop :=
 Q71 Tryz.prog 213 [I g0] (.bool r) []
theorem Ko3 : ∀ p r,Ko1 p = some r → Ko2 p r := by
 rintro g0 r h
 unfold Ko1 at h
 refine b0 Tryz.f213 K7x 5 [(0,I g0)] fun c hc => ?_
 refine rs0 hc 1 [(0,I g0)] [] ?_
 obtain ⟨a0,a1,h⟩ := Qct h
 refine rs hc none [oN,oc (.bool a0),oN] [(2,.bool a0)] [] (cq (Kgv _ _ a1) K5m tv) ?_
 refine rt ?_
 obtain rfl := os h
 exact rq [true]
def Ko4 (c : Ctx) : (Int) ⊕ (Int) → Exit → Q0a → Prop
 | .inl a0 => Qcf c (.exit 1) (mkS [(4,I a0)] [])
 | .inr r => Qco TIx Tryz.f117 [] (I r)
mutual
def Ko5 (p : K01 × Int × Int) : Option (Int) :=
 match p with
 | (t0,n1,nodes4) =>
  (Kj7 t0.fOp) >>= fun (a0,a1) =>
  ((
  if a1 = true then
  if (decide ((wr (nodes4 + 1)) > 400)) = true then
   some (true)
  else
   some (((t0.fKids.length : Int) != a0.fkids))
  else
  some (true)
  ) : Option (Bool)) >>= fun a2 =>
  if a2 = true then
  some 401
  else
  ((
  if (t0.fOp == 0) = true then
   (Kgt (t0.fN,0,(wr (n1 - 1)))) >>= fun a3 =>
   some (a3)
  else
   ((
   if (t0.fOp == 1) = true then
   (Kgt (t0.fN,0,2)) >>= fun a4 =>
   some (a4)
   else
   ((
   if a0.fgrade = true then
   (Ko1 t0.fN) >>= fun a5 =>
   some (a5)
   else
   some ((t0.fN == 0))
   ) : Option (Bool)) >>= fun a6 =>
   some (a6)
   ) : Option (Bool)) >>= fun a7 =>
   some (a7)
  ) : Option (Bool)) >>= fun a8 =>
  ((
  if a0.ftyped = true then
   ((
   if a8 = true then
   (Kih t0.fType) >>= fun a9 =>
   some (a9)
   else
   some (false)
   ) : Option (Bool)) >>= fun b1 =>
   some (b1)
  else
   ((
   if a8 = true then
   some (((t0.fType.length : Int) == 0))
   else
   some (false)
   ) : Option (Bool)) >>= fun b2 =>
   some (b2)
  ) : Option (Bool)) >>= fun b3 =>
  if b3 = true then
  (Ko6 (t0,n1,(wr (nodes4 + 1)),0)) >>= fun fl => match fl with
  | .inl b4 =>
   some b4
  | .inr r =>
   some r
  else
  some 401
 partial_fixpoint
def Ko6 (p : K01 × Int × Int × Int) : Option ((Int) ⊕ (Int)) :=
 match p with
 | (t0,n1,a0,a1) =>
  if (decide (a1 < (t0.fKids.length : Int))) = true then
  (idx t0.fKids a1) >>= fun a2 =>
  (Kjd (t0.fOp,a1)) >>= fun a3 =>
  (Ko5 (a2,(wr (n1 + a3)),a0)) >>= fun a4 =>
  if (decide (a4 > 400)) = true then
  some (.inr 401)
  else
  Ko6 (t0,n1,a4,(wr (a1 + 1)))
  else
  some (.inl a0)
 partial_fixpoint
end
def Ko7 (p : K01 × Int × Int) (r : Int) : Prop :=
 match p with
 | (t0,n1,nodes4) => Q71 Tryz.prog 117 [K1v t0,I n1,.fn 213 [],.fn 118 [],I nodes4] (I r) []
def Ko8 (p : K01 × Int × Int × Int) (fl : (Int) ⊕ (Int)) : Prop :=
 match p with
 | (t0,n1,a0,a1) => ∀ c : Ctx,c.nt = 104 → WpL Tryz.prog c (cl (cl (cr (cl (cr (cr (cr (cr (cr (cr (cr K6l))))))))))) (Ko4 c fl) (mkS [(1,I n1),(2,.fn 213 []),(3,.fn 118 []),(4,I a0),(5,.ra 1 0),(82,.sl (List.map K0g t0.fKids)),(83,I (t0.fKids.length : Int)),(84,I a1)] [(1,K1u t0)])
theorem Ko9 : (∀ p r,Ko5 p = some r → Ko7 p r) ∧ (∀ p r,Ko6 p = some r → Ko8 p r) := by
 refine Ko5.mutual_partial_correctness Ko7 Ko8 ?_ ?_
 ·rintro impl_check_Kimpl_writtenSize_c1_Kimpl_isWrittenType_l0_f impl_check_Kimpl_writtenSize_c1_Kimpl_isWrittenType_l0_ih ⟨t0,n1,nodes4⟩ r h
  refine b0 Tryz.f117 K6l 104 [(0,K1v t0),(1,I n1),(2,.fn 213 []),(3,.fn 118 []),(4,I nodes4)] fun c hc => ?_
  refine rs hc none [some (.new 1),oN] [(1,I n1),(2,.fn 213 []),(3,.fn 118 []),(4,I nodes4),(5,.ra 1 0)] [(1,K1u t0)] tv ?_
  refine K8k hc 3 [(1,I n1),(2,.fn 213 []),(3,.fn 118 []),(4,I (wr (nodes4 + 1))),(5,.ra 1 0)] ?_
  obtain ⟨⟨a0,a1⟩,a2,h⟩ := Qct h
  refine rs hc none [oN,oN,oc (.tup [.agg [.str a0.fword,I a0.fkids,.bool a0.fgrade,.bool a0.ftyped],.bool a1]),oN,oN,oN,some (.new 2),oN,oN] [(1,I n1),(2,.fn 213 []),(3,.fn 118 []),(4,I (wr (nodes4 + 1))),(5,.ra 1 0),(11,.ra 2 0),(12,.bool a1)] [(1,K1u t0),(2,.box [.str a0.fword,I a0.fkids,.bool a0.fgrade,.bool a0.ftyped])] (cq (Kj9 _ _ a2) K6g tv) ?_
  refine sN ?_
  refine sN ?_
  obtain ⟨a3,a4,h⟩ := Qct h
  refine Wp.into (x := .normal) (mkS [(1,I n1),(2,.fn 213 []),(3,.fn 118 []),(4,I (wr (nodes4 + 1))),(5,.ra 1 0),(11,.ra 2 0),(36,.bool a3)] [(1,K1u t0),(2,.box [.str a0.fword,I a0.fkids,.bool a0.fgrade,.bool a0.ftyped])]) ?_ ?_
  ·replace h := a4
   rcases is h with ⟨a5,h⟩ | ⟨a5,h⟩
   ·rcases is h with ⟨a6,h⟩ | ⟨a6,h⟩
    ·refine rgs hc none [oN,oN,oN,oN,oN,oF,oN,o_,o_,o_,o_,o_,o_,oT] [(1,I n1),(2,.fn 213 []),(3,.fn 118 []),(4,I (wr (nodes4 + 1))),(5,.ra 1 0),(11,.ra 2 0),(36,.bool true)] (ar 3 (nF a5) (ar 6 (neF a6) (ai a6 tv))) ?_
     obtain rfl := os h
     exact Qcf.mk
    refine rgs hc none [oN,oN,oN,oN,oN,oF,oN,oN,oN,some (.eqv (.no) ⟨[(32,I (t0.fKids.length : Int))],[],[]⟩),oN,oN,oN,oF] [(1,I n1),(2,.fn 213 []),(3,.fn 118 []),(4,I (wr (nodes4 + 1))),(5,.ra 1 0),(11,.ra 2 0),(36,.bool ((t0.fKids.length : Int) != a0.fkids))] (ar 3 (nF a5) (ar 3 a6 (ai (Qcz (d := 32) K0g t0.fKids) (ar 4 a6 tv)))) ?_
    obtain rfl := os h
    exact Qcf.mk
   refine rgs hc none [oN,oN,oN,o_,o_,oT,oN,o_,o_,o_,o_,o_,o_,oT] [(1,I n1),(2,.fn 213 []),(3,.fn 118 []),(4,I (wr (nodes4 + 1))),(5,.ra 1 0),(11,.ra 2 0),(36,.bool true)] (ar 2 (neF (nT a5)) (ai (nT a5) (ar 6 nf (ai tt tv)))) ?_
   obtain rfl := os h
   exact Qcf.mk
  clear a4
  refine ic h (fun a7 h => ?_) fun a7 h => ?_
  ·refine rs0 hc 1 [(10,I 401)] [] ?_
   refine rt ?_
   obtain rfl := os h
   exact rq [true]
  refine sk ?_
  refine sN ?_
  refine bk 0 ?_
  refine K8k hc 4 [(1,I n1),(2,.fn 213 []),(3,.fn 118 []),(4,I (wr (nodes4 + 1))),(5,.ra 1 0),(11,.ra 2 0),(40,.bool (t0.fOp == 0))] ?_
  obtain ⟨a8,a9,h⟩ := Qct h
  refine Wp.into (x := .normal) (mkS [(1,I n1),(2,.fn 213 []),(3,.fn 118 []),(4,I (wr (nodes4 + 1))),(5,.ra 1 0),(11,.ra 2 0),(12,.bool a8)] [(1,K1u t0),(2,.box [.str a0.fword,I a0.fkids,.bool a0.fgrade,.bool a0.ftyped])]) ?_ ?_
  ·replace h := a9
   refine ic h (fun b1 h => ?_) fun b1 h => ?_
   ·obtain ⟨b2,b3,h⟩ := Qct h
    refine rgs hc none [oN,oN,oN,oN,oc (.bool b2),oN] [(1,I n1),(2,.fn 213 []),(3,.fn 118 []),(4,I (wr (nodes4 + 1))),(5,.ra 1 0),(11,.ra 2 0),(12,.bool b2)] (cq (Kgv _ _ b3) K5m tv) ?_
    obtain rfl := os h
    exact Qcf.mk
   refine K8k hc 4 [(1,I n1),(2,.fn 213 []),(3,.fn 118 []),(4,I (wr (nodes4 + 1))),(5,.ra 1 0),(11,.ra 2 0),(49,.bool (t0.fOp == 1))] ?_
   obtain ⟨b4,b5,h⟩ := Qct h
   refine Wp.into (x := .normal) (mkS [(1,I n1),(2,.fn 213 []),(3,.fn 118 []),(4,I (wr (nodes4 + 1))),(5,.ra 1 0),(11,.ra 2 0),(12,.bool b4)] [(1,K1u t0),(2,.box [.str a0.fword,I a0.fkids,.bool a0.fgrade,.bool a0.ftyped])]) ?_ ?_
   ·replace h := b5
    refine ic h (fun b6 h => ?_) fun b6 h => ?_
    ·obtain ⟨b7,b8,h⟩ := Qct h
     refine rgs hc none [oN,oN,oc (.bool b7),oN] [(1,I n1),(2,.fn 213 []),(3,.fn 118 []),(4,I (wr (nodes4 + 1))),(5,.ra 1 0),(11,.ra 2 0),(12,.bool b7)] (cq (Kgv _ _ b8) K5m tv) ?_
     obtain rfl := os h
     exact Qcf.mk
    refine K8k hc 3 [(1,I n1),(2,.fn 213 []),(3,.fn 118 []),(4,I (wr (nodes4 + 1))),(5,.ra 1 0),(11,.ra 2 0),(56,.bool a0.fgrade)] ?_
    obtain ⟨b9,c0,h⟩ := Qct h
    refine Wp.into (x := .normal) (mkS [(1,I n1),(2,.fn 213 []),(3,.fn 118 []),(4,I (wr (nodes4 + 1))),(5,.ra 1 0),(11,.ra 2 0),(12,.bool b9)] [(1,K1u t0),(2,.box [.str a0.fword,I a0.fkids,.bool a0.fgrade,.bool a0.ftyped])]) ?_ ?_
    ·replace h := c0
     refine ic h (fun c1 h => ?_) fun c1 h => ?_
     ·obtain ⟨c2,c3,h⟩ := Qct h
      refine rgs hc none [oN,oN,oN,oc (.bool c2),oN] [(1,I n1),(2,.fn 213 []),(3,.fn 118 []),(4,I (wr (nodes4 + 1))),(5,.ra 1 0),(11,.ra 2 0),(12,.bool c2)] (cq (Ko3 _ _ c3) K7y tv) ?_
      obtain rfl := os h
      exact Qcf.mk
     refine K8j hc 4 [(1,I n1),(2,.fn 213 []),(3,.fn 118 []),(4,I (wr (nodes4 + 1))),(5,.ra 1 0),(11,.ra 2 0),(12,.bool (t0.fN == 0))] ?_
     obtain rfl := os h
     exact Qcf.mk
    clear c0
    obtain rfl := os h
    exact Qcf.mk
   clear b5
   obtain rfl := os h
   exact Qcf.mk
  clear a9
  refine sN ?_
  refine rs0 hc 2 [(1,I n1),(2,.fn 213 []),(3,.fn 118 []),(4,I (wr (nodes4 + 1))),(5,.ra 1 0),(12,.bool a8),(64,.bool a0.ftyped)] [(1,K1u t0)] ?_
  obtain ⟨c4,c5,h⟩ := Qct h
  refine Wp.into (x := .normal) (mkS [(1,I n1),(2,.fn 213 []),(3,.fn 118 []),(4,I (wr (nodes4 + 1))),(5,.ra 1 0),(12,.bool c4)] [(1,K1u t0)]) ?_ ?_
  ·replace h := c5
   refine ic h (fun c6 h => ?_) fun c6 h => ?_
   ·obtain ⟨c7,c8,h⟩ := Qct h
    refine Wp.into (x := .normal) (mkS [(1,I n1),(2,.fn 213 []),(3,.fn 118 []),(4,I (wr (nodes4 + 1))),(5,.ra 1 0),(12,.bool c7)] [(1,K1u t0)]) ?_ ?_
    ·replace h := c8
     rcases is h with ⟨c9,h⟩ | ⟨c9,h⟩
     ·obtain ⟨d0,d1,h⟩ := Qct h
      refine rgs hc none [oN,oN,oN,oN,oN,oc (.bool d0),oT,oN] [(1,I n1),(2,.fn 213 []),(3,.fn 118 []),(4,I (wr (nodes4 + 1))),(5,.ra 1 0),(12,.bool d0)] (ar 4 c9 (cq (Kij _ _ d1) K64 (ai c9 tv))) ?_
      obtain rfl := os h
      exact Qcf.mk
     refine rgs hc none [oN,oN,o_,o_,o_,o_,oF,oN] [(1,I n1),(2,.fn 213 []),(3,.fn 118 []),(4,I (wr (nodes4 + 1))),(5,.ra 1 0),(12,.bool false)] (ar 4 (neT c9) (ai c9 tv)) ?_
     obtain rfl := os h
     exact Qcf.mk
    clear c8
    obtain rfl := os h
    exact Qcf.mk
   obtain ⟨d2,d3,h⟩ := Qct h
   refine Wp.into (x := .normal) (mkS [(1,I n1),(2,.fn 213 []),(3,.fn 118 []),(4,I (wr (nodes4 + 1))),(5,.ra 1 0),(12,.bool d2)] [(1,K1u t0)]) ?_ ?_
   ·replace h := d3
    rcases is h with ⟨d4,h⟩ | ⟨d4,h⟩
    ·refine rgs hc none [oN,oN,oN,oN,some (.eqv (.no) ⟨[(76,I (t0.fType.length : Int))],[],[]⟩),oN,oT,oN] [(1,I n1),(2,.fn 213 []),(3,.fn 118 []),(4,I (wr (nodes4 + 1))),(5,.ra 1 0),(12,.bool ((t0.fType.length : Int) == 0))] (ar 3 d4 (ai (Qcz (d := 76) I t0.fType) (ar 2 d4 tv))) ?_
     obtain rfl := os h
     exact Qcf.mk
    refine rgs hc none [oN,oN,o_,o_,o_,o_,oF,oN] [(1,I n1),(2,.fn 213 []),(3,.fn 118 []),(4,I (wr (nodes4 + 1))),(5,.ra 1 0),(12,.bool false)] (ar 4 (neT d4) (ai d4 tv)) ?_
    obtain rfl := os h
    exact Qcf.mk
   clear d3
   obtain rfl := os h
   exact Qcf.mk
  clear c5
  refine sN ?_
  refine K8k hc 2 [(1,I n1),(2,.fn 213 []),(3,.fn 118 []),(4,I (wr (nodes4 + 1))),(5,.ra 1 0),(80,.bool (!c4))] ?_
  rcases is h with ⟨d5,h⟩ | ⟨d5,h⟩
  ·refine cF (!c4) (nF d5) ?_
   refine sk ?_
   refine sN ?_
   refine rss hc none [oN,oN,some (.eqv (.no) ⟨[(83,I (t0.fKids.length : Int))],[],[]⟩),oN] [(1,I n1),(2,.fn 213 []),(3,.fn 118 []),(4,I (wr (nodes4 + 1))),(5,.ra 1 0),(82,.sl (List.map K0g t0.fKids)),(83,I (t0.fKids.length : Int)),(84,I 0)] (ai (Qcz (d := 83) K0g t0.fKids) tv) ?_
   refine bk 1 ?_
   obtain ⟨fl,d6,h⟩ := Qct h
   have hL := impl_check_Kimpl_writtenSize_c1_Kimpl_isWrittenType_l0_ih _ _ d6 c hc
   refine lp ?_
   rcases fl with d7 | r
   ·refine WpL.into (e := (.exit 1)) (mkS [(4,I d7)] []) hL ?_
    refine Qc7 ?_
    refine rs0 hc 2 [(10,I d7)] [] ?_
    refine rt ?_
    obtain rfl := os h
    exact rq [true]
   refine WpL.mono hL ?_
   rintro _ _ ⟨rfl,hfin⟩
   obtain rfl := os h
   exact ⟨.inl rfl,hfin⟩
  refine cT (!c4) (nT d5) ?_
  refine rs0 hc 1 [(10,I 401)] [] ?_
  refine rt ?_
  obtain rfl := os h
  exact rq [true]
 ·rintro impl_check_Kimpl_writtenSize_c1_Kimpl_isWrittenType_f impl_check_Kimpl_writtenSize_c1_Kimpl_isWrittenType_l0_f impl_check_Kimpl_writtenSize_c1_Kimpl_isWrittenType_ih impl_check_Kimpl_writtenSize_c1_Kimpl_isWrittenType_l0_ih ⟨t0,n1,d8,d9⟩ r h
  intro c hc
  refine WpL.step ?_
  refine K8k hc 1 [(1,I n1),(2,.fn 213 []),(3,.fn 118 []),(4,I d8),(5,.ra 1 0),(82,.sl (List.map K0g t0.fKids)),(83,I (t0.fKids.length : Int)),(84,I d9),(85,.bool (decide (d9 < (t0.fKids.length : Int))))] ?_
  refine sN ?_
  refine ic h (fun e0 h => ?_) fun e0 h => ?_
  ·refine sk ?_
   refine sN ?_
   refine bk 2 ?_
   obtain ⟨e1,e2,h⟩ := Qct h
   refine rs hc none [oN,some (.el (K1v e1)),oN,some (.new 4),oN,oN] [(1,I n1),(2,.fn 213 []),(3,.fn 118 []),(4,I d8),(5,.ra 1 0),(13,I d9),(14,.ra 4 0),(82,.sl (List.map K0g t0.fKids)),(83,I (t0.fKids.length : Int)),(84,I d9)] [(1,K1u t0),(4,K1u e1)] (ai (Qcx e2 (K0n e1)) tv) ?_
   obtain ⟨e3,e4,e5,e6,h⟩ := bq2 h
   refine rs hc (rx [[0],[0],[0],[0,2],[0],[0,2,3,4],[0,1,2,3,4,5],[0],[0],[0],[10],[11]]) [oN,oN,oN,oN,oN,oc (I e3),oN,oN,oN,oN,oc (I e5),oN] [(1,I n1),(2,.fn 213 []),(3,.fn 118 []),(4,I e5),(5,.ra 1 0),(82,.sl (List.map K0g t0.fKids)),(83,I (t0.fKids.length : Int)),(84,I d9)] [(1,K1u t0)] (cq (Kjf _ _ e4) K6k (cq (impl_check_Kimpl_writtenSize_c1_Kimpl_isWrittenType_ih _ _ e6) K6m tv)) ?_
   refine K8k hc 2 [(1,I n1),(2,.fn 213 []),(3,.fn 118 []),(4,I e5),(5,.ra 1 0),(82,.sl (List.map K0g t0.fKids)),(83,I (t0.fKids.length : Int)),(84,I d9),(101,.bool (decide (e5 > 400)))] ?_
   refine ic h (fun e7 h => ?_) fun e7 h => ?_
   ·refine rs0 hc 1 [(10,I 401)] [] ?_
    refine rt ?_
    obtain rfl := os h
    exact re [true]
   refine sk ?_
   refine K8j hc 2 [(1,I n1),(2,.fn 213 []),(3,.fn 118 []),(4,I e5),(5,.ra 1 0),(82,.sl (List.map K0g t0.fKids)),(83,I (t0.fKids.length : Int)),(84,I (wr (d9 + 1)))] ?_
   refine Qcb ?_
   exact (impl_check_Kimpl_writtenSize_c1_Kimpl_isWrittenType_l0_ih _ _ h c hc)
  refine xt 1 ?_
  refine Qc5 ?_
  refine Qcc ?_
  obtain rfl := os h
  exact iv []
theorem Koa : ∀ p r,Ko5 p = some r → Ko7 p r := Ko9.1
theorem Kob : ∀ p r,Ko6 p = some r → Ko8 p r := Ko9.2
def Koc (t0 : K01) : Option (Int) :=
 (Ko5 (t0,8,0)) >>= fun a0 =>
 some a0
def Kod (t0 : K01) (r : Int) : Prop :=
 Q71 Tryz.prog 162 [K1v t0] (I r) []
theorem Koe : ∀ p r,Koc p = some r → Kod p r := by
 rintro t0 r h
 unfold Koc at h
 refine b0 Tryz.f162 K7z 5 [(0,K1v t0)] fun c hc => ?_
 refine rs hc none [some (.new 1),oN] [(1,.ra 1 0)] [(1,K1u t0)] tv ?_
 obtain ⟨a0,a1,h⟩ := Qct h
 refine rs hc none [oN,oc (I a0),oN] [(2,I a0)] [] (cq (Koa _ _ a1) K6m tv) ?_
 refine rt ?_
 obtain rfl := os h
 exact rq [true]
def Kof (t0 : K01) : Option (Bool) :=
 (Koc t0) >>= fun a0 =>
 some (decide (a0 ≤ 400))
def Kog (t0 : K01) (r : Bool) : Prop :=
 Q71 Tryz.prog 97 [K1v t0] (.bool r) []
theorem Koh : ∀ p r,Kof p = some r → Kog p r := by
 rintro t0 r h
 unfold Kof at h
 refine b0 Tryz.f97 B97 6 [(0,K1v t0)] fun c hc => ?_
 refine rs hc none [some (.new 1),oN] [(1,.ra 1 0)] [(1,K1u t0)] tv ?_
 obtain ⟨a0,a1,h⟩ := Qct h
 refine rs hc none [oN,oc (I a0),oN,oN] [(2,.bool (decide (a0 ≤ 400)))] [] (cq (Koe _ _ a1) K80 tv) ?_
 refine rt ?_
 obtain rfl := os h
 exact rq [true]
def Koi (c : Ctx) : Int × Int × (List Int) × (List K01) → Exit → Q0a → Prop
 | (a0,a1,a2,a3) => Qcf c (.exit 0) (mkS [(8,.ra 3 0),(13,.ra 8 0)] [(3,.box [I 0,I 0,.nils,.nils]),(6,rI a2),(7,.arr (List.map K0j a3)),(8,.box [I a0,I a1,.rs 6,.rs 7])])
def Koj (p : LL × (List Int) × Int × Int × (List Int) × (List K01) × Int) : Option (Int × Int × (List Int) × (List K01)) :=
 match p with
 | (ctx1,budgets2,a0,a1,a2,a3,a4) =>
  if (decide (a4 < (budgets2.length : Int))) = true then
  (idx budgets2 a4) >>= fun a5 =>
  (idx ctx1 a4) >>= fun a6 =>
  (Kkq a6) >>= fun a7 =>
  Koj (ctx1,budgets2,9,a5,a7,[(K01.mk a0 a1 a2 a3)],(wr (a4 + 1)))
  else
  some ((a0,a1,a2,a3))
 partial_fixpoint
def Kok (p : LL × (List Int) × Int × Int × (List Int) × (List K01) × Int) (fl : Int × Int × (List Int) × (List K01)) : Prop :=
 match p with
 | (ctx1,budgets2,a0,a1,a2,a3,a4) => ∀ c : Ctx,c.nt = 60 → WpL Tryz.prog c (cl (cl (cr (cl (cr (cr (cr (cr B43)))))))) (Koi c fl) (mkS [(1,sL ctx1),(8,.ra 3 0),(13,.ra 8 0),(38,sI budgets2),(39,I (budgets2.length : Int)),(40,I a4)] [(3,.box [I 0,I 0,.nils,.nils]),(6,rI a2),(7,.arr (List.map K0j a3)),(8,.box [I a0,I a1,.rs 6,.rs 7])])
theorem Kol : ∀ p r,Koj p = some r → Kok p r := by
 refine Koj.partial_correctness Kok ?_
 rintro impl_CloseTerm_l0_f impl_CloseTerm_l0_ih ⟨ctx1,budgets2,a0,a1,a2,a3,a4⟩ r h
 intro c hc
 refine WpL.step ?_
 refine K8k hc 1 [(1,sL ctx1),(8,.ra 3 0),(13,.ra 8 0),(38,sI budgets2),(39,I (budgets2.length : Int)),(40,I a4),(41,.bool (decide (a4 < (budgets2.length : Int))))] ?_
 refine sN ?_
 refine ic h (fun a5 h => ?_) fun a5 h => ?_
 ·refine sk ?_
  refine sN ?_
  refine bk 1 ?_
  obtain ⟨a6,a7,h⟩ := Qct h
  refine rss hc none [oN,some (.el (I a6)),oN,oN,oN] [(1,sL ctx1),(8,.ra 3 0),(13,.ra 8 0),(14,I a4),(15,I a6),(38,sI budgets2),(39,I (budgets2.length : Int)),(40,I a4)] (ai (ix a7) tv) ?_
  obtain ⟨a8,a9,b1,b2,h⟩ := bq2 h
  refine rg hc (rx [[0],[0],[0],[0,1,2],[0,1,2,3],[0,1,2,3,4],[0],[0,6],[8],[9]]) [oN,oN,oN,some (.el (sI a8)),oN,some (.call (oI b1) [] 11),oN,some (.eqv (.mk 12 true) ⟨[(52,.rs 12)],[(12,some (.arr (List.map K0j [(K01.mk a0 a1 a2 a3)]))),(6,none),(7,none)],[12]⟩),oN,oN] [(1,sL ctx1),(8,.ra 3 0),(13,.ra 8 0),(38,sI budgets2),(39,I (budgets2.length : Int)),(40,I a4)] [(3,.box [I 0,I 0,.nils,.nils]),(8,.box [I 9,I a6,.rs 11,.rs 12]),(11,rI b1),(12,.arr (List.map K0j [(K01.mk a0 a1 a2 a3)]))] (ai (xL a9) (cq (Kks _ _ b2) K72 (ai (congrArg (fun z => (⟨[(52,.rs 12)],[(12,some (.arr z)),(6,none),(7,none)],[12]⟩ : Wr)) ((Qe0 (K0p (K01.mk a0 a1 a2 a3)) Qdz) : [AV.agg [I a0,I a1,oI a2,AV.osl (List.map K0j a3)]] = List.map K0j [(K01.mk a0 a1 a2 a3)])) tv))) ?_
  refine K8j hc 2 [(1,sL ctx1),(8,.ra 3 0),(13,.ra 8 0),(38,sI budgets2),(39,I (budgets2.length : Int)),(40,I (wr (a4 + 1)))] ?_
  refine Qcb ?_
  exact WpL.view (fun a w hv => SRx.renL [(6,11),(7,12)] hv (by kernel_rfl) (by kernel_rfl) (by kernel_rfl)) (impl_CloseTerm_l0_ih _ _ h c hc)
 refine xt 0 ?_
 refine Qc5 ?_
 refine Qcc ?_
 obtain ⟨rfl,hq0⟩ := Prod.mk.inj (Option.some.inj h)
 obtain ⟨rfl,hq1⟩ := Prod.mk.inj (hq0)
 obtain ⟨rfl,rfl⟩ := Prod.mk.inj (hq1)
 exact iv []
def Kom (p : K00 × LL × (List Int) × K01) : Option (K01 × Bool) :=
 match p with
 | (s0,ctx1,budgets2,t3) =>
  (Knh (s0,ctx1,t3)) >>= fun (a0,a1,a2) =>
  ((
  if a2 = true then
  (Kno (s0,ctx1,budgets2,t3,a0)) >>= fun a3 =>
  some ((!a3))
  else
  some (true)
  ) : Option (Bool)) >>= fun a4 =>
  if a4 = true then
  some ((K01.mk 0 0 [] []),false)
  else
  (Kns t3) >>= fun a5 =>
  (Koj (ctx1,budgets2,a5.fOp,a5.fN,a5.fType,a5.fKids,0)) >>= fun (a6,a7,a8,a9) =>
  (Kof (K01.mk a6 a7 a8 a9)) >>= fun b1 =>
  if b1 = true then
  some ((K01.mk a6 a7 a8 a9),true)
  else
  some ((K01.mk 0 0 [] []),false)
def Kon (p : K00 × LL × (List Int) × K01) (r : K01 × Bool) : Prop :=
 match p with
 | (s0,ctx1,budgets2,t3) => Q71 Tryz.prog 43 [K1t s0,sL ctx1,sI budgets2,K1v t3] (.tup [.agg [I r.1.fOp,I r.1.fN,.osl (List.map I r.1.fType),.osl (List.map K0j r.1.fKids)],.bool r.2]) []
theorem Koo : ∀ p r,Kom p = some r → Kon p r := by
 rintro ⟨s0,ctx1,budgets2,t3⟩ r h
 unfold Kom at h
 refine b0 Tryz.f43 B43 60 [(0,K1t s0),(1,sL ctx1),(2,sI budgets2),(3,K1v t3)] fun c hc => ?_
 refine rs hc none [some (.new 1),some (.new 2),some (.new 3),oN] [(1,sL ctx1),(2,sI budgets2),(4,.ra 1 0),(7,.ra 2 0),(8,.ra 3 0)] [(1,K1s s0),(2,K1u t3),(3,.box [I 0,I 0,.nils,.nils])] tv ?_
 obtain ⟨⟨a0,a1,a2⟩,a3,h⟩ := Qct h
 refine rs hc none [oN,oN,oN,some (.call (.tup [oI a0,oI a1,.bool a2]) [] 4),oN,oN,oN,oN,oN,oN,oN] [(1,sL ctx1),(2,sI budgets2),(4,.ra 1 0),(7,.ra 2 0),(8,.ra 3 0),(10,.rs 4),(12,.bool a2)] [(1,K1s s0),(2,K1u t3),(3,.box [I 0,I 0,.nils,.nils]),(4,rI a0)] (cq (Knj _ _ a3) K7u tv) ?_
 refine sN ?_
 refine sN ?_
 obtain ⟨a4,a5,h⟩ := Qct h
 refine Wp.into (x := .normal) (mkS [(1,sL ctx1),(2,sI budgets2),(7,.ra 2 0),(8,.ra 3 0),(34,.bool a4)] [(2,K1u t3),(3,.box [I 0,I 0,.nils,.nils])]) ?_ ?_
 ·replace h := a5
  rcases is h with ⟨a6,h⟩ | ⟨a6,h⟩
  ·obtain ⟨a7,a8,h⟩ := Qct h
   refine rg hc none [oN,oN,oN,oN,oN,oN,oN,oN,oc (.bool a7),oN,oF] [(1,sL ctx1),(2,sI budgets2),(7,.ra 2 0),(8,.ra 3 0),(34,.bool (!a7))] [(2,K1u t3),(3,.box [I 0,I 0,.nils,.nils])] (ar 6 (nF a6) (ac (Q71.args (A1 := [K1t s0,sL ctx1,sI budgets2,K1v t3,.sl (Q02 (List.map I a0))]) (A2 := [K1t s0,sL ctx1,sI budgets2,K1v t3,sI a0]) (by simp only [List.map_nil,Qdl]) (Knq _ _ a8)) K7v (Or.inr rfl : ([4] : List Nat) = [] ∨ noSh (.bool a7) = true) (ar 2 (nF a6) tv))) ?_
   obtain rfl := os h
   exact Qcf.mk
  refine rg hc none [oN,oN,oN,o_,o_,o_,o_,o_,o_,o_,oT] [(1,sL ctx1),(2,sI budgets2),(7,.ra 2 0),(8,.ra 3 0),(34,.bool true)] [(2,K1u t3),(3,.box [I 0,I 0,.nils,.nils])] (ar 7 (neF (nT a6)) (ai (nT a6) tv)) ?_
  obtain rfl := os h
  exact Qcf.mk
 clear a5
 refine ic h (fun a9 h => ?_) fun a9 h => ?_
 ·refine rs0 hc 3 [(8,.ra 3 0),(9,.bool false)] [(3,.box [I 0,I 0,.nils,.nils])] ?_
  refine rt ?_
  obtain rfl := os h
  exact rq [true,true]
 refine sk ?_
 obtain ⟨b1,b2,h⟩ := Qct h
 refine rs hc none [oN,some (.call (K24 b1) [] 6),some (.new 8),oN] [(1,sL ctx1),(2,sI budgets2),(8,.ra 3 0),(13,.ra 8 0)] [(3,.box [I 0,I 0,.nils,.nils]),(6,rI b1.fType),(7,.arr (List.map K0j b1.fKids)),(8,.box [I b1.fOp,I b1.fN,.rs 6,.rs 7])] (cq (Knx _ _ b2) K7w tv) ?_
 refine sN ?_
 refine rss hc none [oN,some (.eqv (.no) ⟨[(39,I (budgets2.length : Int))],[],[]⟩),oN] [(1,sL ctx1),(8,.ra 3 0),(13,.ra 8 0),(38,sI budgets2),(39,I (budgets2.length : Int)),(40,I 0)] (ai (Qcz (d := 39) I budgets2) tv) ?_
 refine bk 0 ?_
 obtain ⟨⟨b3,b4,b5,b6⟩,b7,h⟩ := Qct h
 have hL := Kol _ _ b7 c hc
 refine lp ?_
 refine WpL.into (e := (.exit 0)) (mkS [(8,.ra 3 0),(13,.ra 8 0)] [(3,.box [I 0,I 0,.nils,.nils]),(6,rI b5),(7,.arr (List.map K0j b6)),(8,.box [I b3,I b4,.rs 6,.rs 7])]) hL ?_
 refine Qc7 ?_
 refine sN ?_
 obtain ⟨b8,b9,h⟩ := Qct h
 refine rss hc none [oN,oc (.bool b8),oN] [(8,.ra 3 0),(13,.ra 8 0),(57,.bool (!b8))] (ac (Q71.args (A1 := [.agg [I b3,I b4,.sl (Q02 (List.map I b5)),.sl (Q02 (List.map K0j b6))]]) (A2 := [.agg [I b3,I b4,sI b5,.sl (List.map K0g b6)]]) (by simp only [List.map_nil,K1f,Qdl]) (Koh _ _ b9)) K81 (Or.inr rfl : ([6,7] : List Nat) = [] ∨ noSh (.bool b8) = true) tv) ?_
 rcases is h with ⟨c0,h⟩ | ⟨c0,h⟩
 ·refine cF (!b8) (nF c0) ?_
  refine sk ?_
  refine rs0 hc 3 [(8,.ra 3 0),(9,.bool true)] [(3,.box [I b3,I b4,.rs 6,.rs 7]),(6,rI b5),(7,.arr (List.map K0j b6))] ?_
  refine rt ?_
  obtain rfl := os h
  exact rq [true,true]
 refine cT (!b8) (nT c0) ?_
 refine rs0 hc 3 [(8,.ra 3 0),(9,.bool false)] [(3,.box [I 0,I 0,.nils,.nils])] ?_
 refine rt ?_
 obtain rfl := os h
 exact rq [true,true]
def Kop (c : Ctx) : (Unit) ⊕ (Bool) → Exit → Q0a → Prop
 | .inl _ => Qcf c (.exit 0) (mkS [] [])
 | .inr r => Qco TIx Tryz.f23 [] (.bool r)
def Koq (p : (List Int) × (List Int) × Int) : Option ((Unit) ⊕ (Bool)) :=
 match p with
 | (a0,b1,a1) =>
  if (decide (a1 < (a0.length : Int))) = true then
  (idx a0 a1) >>= fun a2 =>
  (idx b1 a1) >>= fun a3 =>
  if (a2 != a3) = true then
  some (.inr false)
  else
  Koq (a0,b1,(wr (a1 + 1)))
  else
  some (.inl ())
 partial_fixpoint
def Kor (p : (List Int) × (List Int) × Int) (fl : (Unit) ⊕ (Bool)) : Prop :=
 match p with
 | (a0,b1,a1) => ∀ c : Ctx,c.nt = 26 → WpL Tryz.prog c (cl (cl (cr (cl (cr (cr B23)))))) (Kop c fl) (mkS [(0,sI a0),(1,sI b1),(5,I a1)] [])
theorem Kos : ∀ p r,Koq p = some r → Kor p r := by
 refine Koq.partial_correctness Kor ?_
 rintro laws_eqIntS_l0_f laws_eqIntS_l0_ih ⟨a0,b1,a1⟩ r h
 intro c hc
 refine WpL.step ?_
 refine sN ?_
 refine rs hc none [oN,oN,some (.eqv (.no) ⟨[(13,I (a0.length : Int))],[],[]⟩),oN] [(0,sI a0),(1,sI b1),(5,I a1),(14,.bool (decide (a1 < (a0.length : Int))))] [] (ai (Qcz (d := 13) I a0) tv) ?_
 refine ic h (fun a2 h => ?_) fun a2 h => ?_
 ·refine sk ?_
  refine sN ?_
  refine bk 1 ?_
  obtain ⟨a3,a4,a5,a6,h⟩ := bq2 h
  refine rs hc Knz [oN,oN,some (.el (I a3)),oN,oN,oN,some (.el (I a5)),oN,oN] [(0,sI a0),(1,sI b1),(5,I a1),(25,.bool (a3 != a5))] [] (ab (ix a4) (ix a6) tv) ?_
  refine ic h (fun a7 h => ?_) fun a7 h => ?_
  ·refine rs0 hc 1 [(4,.bool false)] [] ?_
   refine rt ?_
   obtain rfl := os h
   exact re [true]
  refine sk ?_
  refine rg0 hc 3 [(0,sI a0),(1,sI b1),(5,I (wr (a1 + 1)))] [] ?_
  refine Qcb ?_
  exact (laws_eqIntS_l0_ih _ _ h c hc)
 refine xt 0 ?_
 refine Qc5 ?_
 refine Qcc ?_
 obtain rfl := os h
 exact iv []
def Kot (p : (List Int) × (List Int)) : Option (Bool) :=
 match p with
 | (a0,b1) =>
  if ((a0.length : Int) != (b1.length : Int)) = true then
  some false
  else
  (Koq (a0,b1,0)) >>= fun fl => match fl with
  | .inl () =>
   some true
  | .inr r =>
   some r
def Kou (p : (List Int) × (List Int)) (r : Bool) : Prop :=
 match p with
 | (a0,b1) => Q71 Tryz.prog 23 [sI a0,sI b1] (.bool r) []
theorem Kov : ∀ p r,Kot p = some r → Kou p r := by
 rintro ⟨a0,b1⟩ r h
 unfold Kot at h
 refine b0 Tryz.f23 B23 26 [(0,sI a0),(1,sI b1)] fun c hc => ?_
 refine rs0 hc 1 [(0,sI a0),(1,sI b1)] [] ?_
 refine sN ?_
 refine rs hc none [oN,some (.eqv (.no) ⟨[(7,I (a0.length : Int))],[],[]⟩),oN,some (.eqv (.no) ⟨[(9,I (b1.length : Int))],[],[]⟩),oN] [(0,sI a0),(1,sI b1),(10,.bool ((a0.length : Int) != (b1.length : Int)))] [] (ab (Qcz (d := 7) I a0) (Qcz (d := 9) I b1) tv) ?_
 refine ic h (fun a1 h => ?_) fun a1 h => ?_
 ·refine rs0 hc 1 [(4,.bool false)] [] ?_
  refine rt ?_
  obtain rfl := os h
  exact rq [true]
 refine sk ?_
 refine sN ?_
 refine rs0 hc 1 [(0,sI a0),(1,sI b1),(5,I 0)] [] ?_
 refine bk 0 ?_
 obtain ⟨fl,a2,h⟩ := Qct h
 have hL := Kos _ _ a2 c hc
 refine lp ?_
 rcases fl with ⟨⟩ | r
 ·refine WpL.into (e := (.exit 0)) (mkS [] []) hL ?_
  refine Qc7 ?_
  refine rs0 hc 1 [(4,.bool true)] [] ?_
  refine rt ?_
  obtain rfl := os h
  exact rq [true]
 refine WpL.mono hL ?_
 rintro _ _ ⟨rfl,hfin⟩
 obtain rfl := os h
 exact ⟨.inl rfl,hfin⟩
def Kow (c : Ctx) : (Unit) ⊕ (Bool) → Exit → Q0a → Prop
 | .inl _ => Qcf c (.exit 0) (mkS [] [])
 | .inr r => Qco TIx Tryz.f79 [] (.bool r)
mutual
def Kox (p : K01 × K01) : Option (Bool) :=
 match p with
 | (a0,b1) =>
  if (a0.fOp != b1.fOp) = true then
  some false
  else
  if (a0.fN != b1.fN) = true then
  some false
  else
  (Kot (a0.fType,b1.fType)) >>= fun a1 =>
  if a1 = true then
  (Koy (a0.fKids,b1.fKids)) >>= fun a2 =>
  if a2 = true then
  some true
  else
  some false
  else
  some false
 partial_fixpoint
def Koy (p : (List K01) × (List K01)) : Option (Bool) :=
 match p with
 | (a0,b1) =>
  if ((a0.length : Int) != (b1.length : Int)) = true then
  some false
  else
  (Koz (a0,b1,0)) >>= fun fl => match fl with
  | .inl () =>
   some true
  | .inr r =>
   some r
 partial_fixpoint
def Koz (p : (List K01) × (List K01) × Int) : Option ((Unit) ⊕ (Bool)) :=
 match p with
 | (a0,b1,a1) =>
  if (decide (a1 < (a0.length : Int))) = true then
  (idx a0 a1) >>= fun a2 =>
  (idx b1 a1) >>= fun a3 =>
  (Kox (a2,a3)) >>= fun a4 =>
  if a4 = true then
  Koz (a0,b1,(wr (a1 + 1)))
  else
  some (.inr false)
  else
  some (.inl ())
 partial_fixpoint
end
def Kp0 (p : K01 × K01) (r : Bool) : Prop :=
 match p with
 | (a0,b1) => Q71 Tryz.prog 26 [K1v a0,K1v b1] (.bool r) []
def Kp1 (p : (List K01) × (List K01)) (r : Bool) : Prop :=
 match p with
 | (a0,b1) => Q71 Tryz.prog 79 [.sl (List.map K0g a0),.sl (List.map K0g b1)] (.bool r) []
def Kp2 (p : (List K01) × (List K01) × Int) (fl : (Unit) ⊕ (Bool)) : Prop :=
 match p with
 | (a0,b1,a1) => ∀ c : Ctx,c.nt = 27 → WpL Tryz.prog c (cl (cl (cr (cl (cr (cr B79)))))) (Kow c fl) (mkS [(0,.sl (List.map K0g a0)),(1,.sl (List.map K0g b1)),(5,I a1)] [])
theorem Kp3 : (∀ p r,Kox p = some r → Kp0 p r) ∧ (∀ p r,Koy p = some r → Kp1 p r) ∧ (∀ p r,Koz p = some r → Kp2 p r) := by
 refine Kox.mutual_partial_correctness Kp0 Kp1 Kp2 ?_ ?_ ?_
 ·rintro laws_eqTermS_f laws_eqTermS_ih ⟨a0,b1⟩ r h
  refine b0 Tryz.f26 B26 27 [(0,K1v a0),(1,K1v b1)] fun c hc => ?_
  refine rs hc none [some (.new 1),some (.new 2),oN] [(2,.ra 1 0),(3,.ra 2 0)] [(1,K1u a0),(2,K1u b1)] tv ?_
  refine sN ?_
  refine K8k hc 5 [(2,.ra 1 0),(3,.ra 2 0),(9,.bool (a0.fOp != b1.fOp))] ?_
  refine ic h (fun a1 h => ?_) fun a1 h => ?_
  ·refine rs0 hc 1 [(4,.bool false)] [] ?_
   refine rt ?_
   obtain rfl := os h
   exact rq [true]
  refine sk ?_
  refine sN ?_
  refine K8k hc 5 [(2,.ra 1 0),(3,.ra 2 0),(14,.bool (a0.fN != b1.fN))] ?_
  refine ic h (fun a2 h => ?_) fun a2 h => ?_
  ·refine rs0 hc 1 [(4,.bool false)] [] ?_
   refine rt ?_
   obtain rfl := os h
   exact rq [true]
  refine sk ?_
  refine sN ?_
  obtain ⟨a3,a4,h⟩ := Qct h
  refine rss hc none [oN,oN,oN,oN,oc (.bool a3),oN] [(2,.ra 1 0),(3,.ra 2 0),(20,.bool (!a3))] (cq (Kov _ _ a4) K83 tv) ?_
  rcases is h with ⟨a5,h⟩ | ⟨a5,h⟩
  ·refine cF (!a3) (nF a5) ?_
   refine sk ?_
   refine sN ?_
   obtain ⟨a6,a7,h⟩ := Qct h
   refine rs hc none [oN,oN,oN,oN,oc (.bool a6),oN] [(26,.bool (!a6))] [] (cq (laws_eqTermS_ih _ _ a7) K84 tv) ?_
   rcases is h with ⟨a8,h⟩ | ⟨a8,h⟩
   ·refine cF (!a6) (nF a8) ?_
    refine sk ?_
    refine rs0 hc 1 [(4,.bool true)] [] ?_
    refine rt ?_
    obtain rfl := os h
    exact rq [true]
   refine cT (!a6) (nT a8) ?_
   refine rs0 hc 1 [(4,.bool false)] [] ?_
   refine rt ?_
   obtain rfl := os h
   exact rq [true]
  refine cT (!a3) (nT a5) ?_
  refine rs0 hc 1 [(4,.bool false)] [] ?_
  refine rt ?_
  obtain rfl := os h
  exact rq [true]
 ·rintro laws_eqTermS_l0_f laws_eqTermS_l0_ih ⟨a0,b1⟩ r h
  refine b0 Tryz.f79 B79 27 [(0,.sl (List.map K0g a0)),(1,.sl (List.map K0g b1))] fun c hc => ?_
  refine rs0 hc 1 [(0,.sl (List.map K0g a0)),(1,.sl (List.map K0g b1))] [] ?_
  refine sN ?_
  refine rs hc none [oN,some (.eqv (.no) ⟨[(7,I (a0.length : Int))],[],[]⟩),oN,some (.eqv (.no) ⟨[(9,I (b1.length : Int))],[],[]⟩),oN] [(0,.sl (List.map K0g a0)),(1,.sl (List.map K0g b1)),(10,.bool ((a0.length : Int) != (b1.length : Int)))] [] (ab (Qcz (d := 7) K0g a0) (Qcz (d := 9) K0g b1) tv) ?_
  refine ic h (fun a1 h => ?_) fun a1 h => ?_
  ·refine rs0 hc 1 [(4,.bool false)] [] ?_
   refine rt ?_
   obtain rfl := os h
   exact rq [true]
  refine sk ?_
  refine sN ?_
  refine rs0 hc 1 [(0,.sl (List.map K0g a0)),(1,.sl (List.map K0g b1)),(5,I 0)] [] ?_
  refine bk 0 ?_
  obtain ⟨fl,a9,h⟩ := Qct h
  have hL := laws_eqTermS_l0_ih _ _ a9 c hc
  refine lp ?_
  rcases fl with ⟨⟩ | r
  ·refine WpL.into (e := (.exit 0)) (mkS [] []) hL ?_
   refine Qc7 ?_
   refine rs0 hc 1 [(4,.bool true)] [] ?_
   refine rt ?_
   obtain rfl := os h
   exact rq [true]
  refine WpL.mono hL ?_
  rintro _ _ ⟨rfl,hfin⟩
  obtain rfl := os h
  exact ⟨.inl rfl,hfin⟩
 ·rintro laws_eqTerm_f laws_eqTermS_l0_f laws_eqTerm_ih laws_eqTermS_l0_ih ⟨a0,b1,b2⟩ r h
  intro c hc
  refine WpL.step ?_
  refine sN ?_
  refine rs hc none [oN,oN,some (.eqv (.no) ⟨[(13,I (a0.length : Int))],[],[]⟩),oN] [(0,.sl (List.map K0g a0)),(1,.sl (List.map K0g b1)),(5,I b2),(14,.bool (decide (b2 < (a0.length : Int))))] [] (ai (Qcz (d := 13) K0g a0) tv) ?_
  refine ic h (fun b3 h => ?_) fun b3 h => ?_
  ·refine sk ?_
   refine sN ?_
   refine bk 1 ?_
   obtain ⟨b4,b5,b6,b7,b8,b9,h⟩ := bq3 h
   refine rs hc Ko0 [oN,oN,some (.el (K1v b4)),oN,oN,oN,some (.el (K1v b6)),oN,oc (.bool b8),oN] [(0,.sl (List.map K0g a0)),(1,.sl (List.map K0g b1)),(5,I b2),(26,.bool (!b8))] [] (ab (Qcx b5 (K0n b4)) (Qcx b7 (K0n b6)) (cq (laws_eqTerm_ih _ _ b9) K85 tv)) ?_
   rcases is h with ⟨c0,h⟩ | ⟨c0,h⟩
   ·refine cF (!b8) (nF c0) ?_
    refine sk ?_
    refine rg0 hc 3 [(0,.sl (List.map K0g a0)),(1,.sl (List.map K0g b1)),(5,I (wr (b2 + 1)))] [] ?_
    refine Qcb ?_
    exact (laws_eqTermS_l0_ih _ _ h c hc)
   refine cT (!b8) (nT c0) ?_
   refine rs0 hc 1 [(4,.bool false)] [] ?_
   refine rt ?_
   obtain rfl := os h
   exact re [true]
  refine xt 0 ?_
  refine Qc5 ?_
  refine Qcc ?_
  obtain rfl := os h
  exact iv []
theorem Kp4 : ∀ p r,Kox p = some r → Kp0 p r := Kp3.1
theorem Kp5 : ∀ p r,Koy p = some r → Kp1 p r := Kp3.2.1
theorem Kp6 : ∀ p r,Koz p = some r → Kp2 p r := Kp3.2.2
def Kp7 (c : Ctx) : (Unit) ⊕ (Bool) → Exit → Q0a → Prop
 | .inl _ => Qcf c (.exit 0) (mkS [] [])
 | .inr r => Qco TIx Tryz.f78 [] (.bool r)
def Kp8 (p : (List Bool) × (List Bool) × Int) : Option ((Unit) ⊕ (Bool)) :=
 match p with
 | (a0,b1,a1) =>
  if (decide (a1 < (a0.length : Int))) = true then
  (idx a0 a1) >>= fun a2 =>
  (idx b1 a1) >>= fun a3 =>
  if (a2 == a3) = true then
  Kp8 (a0,b1,(wr (a1 + 1)))
  else
  some (.inr false)
  else
  some (.inl ())
 partial_fixpoint
def Kp9 (p : (List Bool) × (List Bool) × Int) (fl : (Unit) ⊕ (Bool)) : Prop :=
 match p with
 | (a0,b1,a1) => ∀ c : Ctx,c.nt = 26 → WpL Tryz.prog c (cl (cl (cr (cl (cr (cr B78)))))) (Kp7 c fl) (mkS [(0,sB a0),(1,sB b1),(5,I a1)] [])
theorem Kpa : ∀ p r,Kp8 p = some r → Kp9 p r := by
 refine Kp8.partial_correctness Kp9 ?_
 rintro laws_eqBoolS_l0_f laws_eqBoolS_l0_ih ⟨a0,b1,a1⟩ r h
 intro c hc
 refine WpL.step ?_
 refine sN ?_
 refine rs hc none [oN,oN,some (.eqv (.no) ⟨[(13,I (a0.length : Int))],[],[]⟩),oN] [(0,sB a0),(1,sB b1),(5,I a1),(14,.bool (decide (a1 < (a0.length : Int))))] [] (ai (Qcz (d := 13) AV.bool a0) tv) ?_
 refine ic h (fun a2 h => ?_) fun a2 h => ?_
 ·refine sk ?_
  refine sN ?_
  refine bk 1 ?_
  obtain ⟨a3,a4,a5,a6,h⟩ := bq2 h
  refine rs hc Knz [oN,oN,some (.el (.bool a3)),oN,oN,oN,some (.el (.bool a5)),oN,oN] [(0,sB a0),(1,sB b1),(5,I a1),(25,.bool (!(a3 == a5)))] [] (ab (Qcx (enc := AV.bool) (x := .bool a3) a4 (Qda a3)) (Qcx (enc := AV.bool) (x := .bool a5) a6 (Qda a5)) tv) ?_
  rcases is h with ⟨a7,h⟩ | ⟨a7,h⟩
  ·refine cF ((!(a3 == a5))) (nF a7) ?_
   refine sk ?_
   refine rg0 hc 3 [(0,sB a0),(1,sB b1),(5,I (wr (a1 + 1)))] [] ?_
   refine Qcb ?_
   exact (laws_eqBoolS_l0_ih _ _ h c hc)
  refine cT ((!(a3 == a5))) (nT a7) ?_
  refine rs0 hc 1 [(4,.bool false)] [] ?_
  refine rt ?_
  obtain rfl := os h
  exact re [true]
 refine xt 0 ?_
 refine Qc5 ?_
 refine Qcc ?_
 obtain rfl := os h
 exact iv []
def Kpb (p : (List Bool) × (List Bool)) : Option (Bool) :=
 match p with
 | (a0,b1) =>
  if ((a0.length : Int) != (b1.length : Int)) = true then
  some false
  else
  (Kp8 (a0,b1,0)) >>= fun fl => match fl with
  | .inl () =>
   some true
  | .inr r =>
   some r
def Kpc (p : (List Bool) × (List Bool)) (r : Bool) : Prop :=
 match p with
 | (a0,b1) => Q71 Tryz.prog 78 [sB a0,sB b1] (.bool r) []
theorem Kpd : ∀ p r,Kpb p = some r → Kpc p r := by
 rintro ⟨a0,b1⟩ r h
 unfold Kpb at h
 refine b0 Tryz.f78 B78 26 [(0,sB a0),(1,sB b1)] fun c hc => ?_
 refine rs0 hc 1 [(0,sB a0),(1,sB b1)] [] ?_
 refine sN ?_
 refine rs hc none [oN,some (.eqv (.no) ⟨[(7,I (a0.length : Int))],[],[]⟩),oN,some (.eqv (.no) ⟨[(9,I (b1.length : Int))],[],[]⟩),oN] [(0,sB a0),(1,sB b1),(10,.bool ((a0.length : Int) != (b1.length : Int)))] [] (ab (Qcz (d := 7) AV.bool a0) (Qcz (d := 9) AV.bool b1) tv) ?_
 refine ic h (fun a1 h => ?_) fun a1 h => ?_
 ·refine rs0 hc 1 [(4,.bool false)] [] ?_
  refine rt ?_
  obtain rfl := os h
  exact rq [true]
 refine sk ?_
 refine sN ?_
 refine rs0 hc 1 [(0,sB a0),(1,sB b1),(5,I 0)] [] ?_
 refine bk 0 ?_
 obtain ⟨fl,a2,h⟩ := Qct h
 have hL := Kpa _ _ a2 c hc
 refine lp ?_
 rcases fl with ⟨⟩ | r
 ·refine WpL.into (e := (.exit 0)) (mkS [] []) hL ?_
  refine Qc7 ?_
  refine rs0 hc 1 [(4,.bool true)] [] ?_
  refine rt ?_
  obtain rfl := os h
  exact rq [true]
 refine WpL.mono hL ?_
 rintro _ _ ⟨rfl,hfin⟩
 obtain rfl := os h
 exact ⟨.inl rfl,hfin⟩
def Kpe (p : K00 × K00) : Option (Bool) :=
 match p with
 | (a0,b1) =>
  if (a0.fSize != b1.fSize) = true then
  some false
  else
  (Kot (a0.fPlus,b1.fPlus)) >>= fun a1 =>
  if a1 = true then
  (Kot (a0.fTimes,b1.fTimes)) >>= fun a2 =>
  if a2 = true then
  (Kpb (a0.fBelow,b1.fBelow)) >>= fun a3 =>
  if a3 = true then
  some true
  else
  some false
  else
  some false
  else
  some false
def Kpf (p : K00 × K00) (r : Bool) : Prop :=
 match p with
 | (a0,b1) => Q71 Tryz.prog 24 [K1t a0,K1t b1] (.bool r) []
theorem Kpg : ∀ p r,Kpe p = some r → Kpf p r := by
 rintro ⟨a0,b1⟩ r h
 unfold Kpe at h
 refine b0 Tryz.f24 B24 28 [(0,K1t a0),(1,K1t b1)] fun c hc => ?_
 refine rs hc none [some (.new 1),some (.new 2),oN] [(2,.ra 1 0),(3,.ra 2 0)] [(1,K1s a0),(2,K1s b1)] tv ?_
 refine sN ?_
 refine K8k hc 5 [(2,.ra 1 0),(3,.ra 2 0),(9,.bool (a0.fSize != b1.fSize))] ?_
 refine ic h (fun a1 h => ?_) fun a1 h => ?_
 ·refine rs0 hc 1 [(4,.bool false)] [] ?_
  refine rt ?_
  obtain rfl := os h
  exact rq [true]
 refine sk ?_
 refine sN ?_
 obtain ⟨a2,a3,h⟩ := Qct h
 refine rss hc none [oN,oN,oN,oN,oc (.bool a2),oN] [(2,.ra 1 0),(3,.ra 2 0),(15,.bool (!a2))] (cq (Kov _ _ a3) K83 tv) ?_
 rcases is h with ⟨a4,h⟩ | ⟨a4,h⟩
 ·refine cF (!a2) (nF a4) ?_
  refine sk ?_
  refine sN ?_
  obtain ⟨a5,a6,h⟩ := Qct h
  refine rss hc none [oN,oN,oN,oN,oc (.bool a5),oN] [(2,.ra 1 0),(3,.ra 2 0),(21,.bool (!a5))] (cq (Kov _ _ a6) K83 tv) ?_
  rcases is h with ⟨a7,h⟩ | ⟨a7,h⟩
  ·refine cF (!a5) (nF a7) ?_
   refine sk ?_
   refine sN ?_
   obtain ⟨a8,a9,h⟩ := Qct h
   refine rs hc none [oN,oN,oN,oN,oc (.bool a8),oN] [(27,.bool (!a8))] [] (cq (Kpd _ _ a9) K86 tv) ?_
   rcases is h with ⟨b2,h⟩ | ⟨b2,h⟩
   ·refine cF (!a8) (nF b2) ?_
    refine sk ?_
    refine rs0 hc 1 [(4,.bool true)] [] ?_
    refine rt ?_
    obtain rfl := os h
    exact rq [true]
   refine cT (!a8) (nT b2) ?_
   refine rs0 hc 1 [(4,.bool false)] [] ?_
   refine rt ?_
   obtain rfl := os h
   exact rq [true]
  refine cT (!a5) (nT a7) ?_
  refine rs0 hc 1 [(4,.bool false)] [] ?_
  refine rt ?_
  obtain rfl := os h
  exact rq [true]
 refine cT (!a2) (nT a4) ?_
 refine rs0 hc 1 [(4,.bool false)] [] ?_
 refine rt ?_
 obtain rfl := os h
 exact rq [true]
def Kph (c : Ctx) : (Unit) ⊕ (Bool) → Exit → Q0a → Prop
 | .inl _ => Qcf c (.exit 0) (mkS [] [])
 | .inr r => Qco TIx Tryz.f25 [] (.bool r)
def Kpi (p : LL × LL × Int) : Option ((Unit) ⊕ (Bool)) :=
 match p with
 | (a0,b1,a1) =>
  if (decide (a1 < (a0.length : Int))) = true then
  (idx a0 a1) >>= fun a2 =>
  (idx b1 a1) >>= fun a3 =>
  (Kot (a2,a3)) >>= fun a4 =>
  if a4 = true then
  Kpi (a0,b1,(wr (a1 + 1)))
  else
  some (.inr false)
  else
  some (.inl ())
 partial_fixpoint
def Kpj (p : LL × LL × Int) (fl : (Unit) ⊕ (Bool)) : Prop :=
 match p with
 | (a0,b1,a1) => ∀ c : Ctx,c.nt = 27 → WpL Tryz.prog c (cl (cl (cr (cl (cr (cr B25)))))) (Kph c fl) (mkS [(0,sL a0),(1,sL b1),(5,I a1)] [])
theorem Kpk : ∀ p r,Kpi p = some r → Kpj p r := by
 refine Kpi.partial_correctness Kpj ?_
 rintro laws_eqIntSS_l0_f laws_eqIntSS_l0_ih ⟨a0,b1,a1⟩ r h
 intro c hc
 refine WpL.step ?_
 refine sN ?_
 refine rs hc none [oN,oN,some (.eqv (.no) ⟨[(13,I (a0.length : Int))],[],[]⟩),oN] [(0,sL a0),(1,sL b1),(5,I a1),(14,.bool (decide (a1 < (a0.length : Int))))] [] (ai (Qcz (d := 13) K10 a0) tv) ?_
 refine ic h (fun a2 h => ?_) fun a2 h => ?_
 ·refine sk ?_
  refine sN ?_
  refine bk 1 ?_
  obtain ⟨a3,a4,a5,a6,a7,a8,h⟩ := bq3 h
  refine rs hc Ko0 [oN,oN,some (.el (sI a3)),oN,oN,oN,some (.el (sI a5)),oN,oc (.bool a7),oN] [(0,sL a0),(1,sL b1),(5,I a1),(26,.bool (!a7))] [] (ab (xL a4) (xL a6) (cq (Kov _ _ a8) K83 tv)) ?_
  rcases is h with ⟨a9,h⟩ | ⟨a9,h⟩
  ·refine cF (!a7) (nF a9) ?_
   refine sk ?_
   refine rg0 hc 3 [(0,sL a0),(1,sL b1),(5,I (wr (a1 + 1)))] [] ?_
   refine Qcb ?_
   exact (laws_eqIntSS_l0_ih _ _ h c hc)
  refine cT (!a7) (nT a9) ?_
  refine rs0 hc 1 [(4,.bool false)] [] ?_
  refine rt ?_
  obtain rfl := os h
  exact re [true]
 refine xt 0 ?_
 refine Qc5 ?_
 refine Qcc ?_
 obtain rfl := os h
 exact iv []
def Kpl (p : LL × LL) : Option (Bool) :=
 match p with
 | (a0,b1) =>
  if ((a0.length : Int) != (b1.length : Int)) = true then
  some false
  else
  (Kpi (a0,b1,0)) >>= fun fl => match fl with
  | .inl () =>
   some true
  | .inr r =>
   some r
def Kpm (p : LL × LL) (r : Bool) : Prop :=
 match p with
 | (a0,b1) => Q71 Tryz.prog 25 [sL a0,sL b1] (.bool r) []
theorem Kpn : ∀ p r,Kpl p = some r → Kpm p r := by
 rintro ⟨a0,b1⟩ r h
 unfold Kpl at h
 refine b0 Tryz.f25 B25 27 [(0,sL a0),(1,sL b1)] fun c hc => ?_
 refine rs0 hc 1 [(0,sL a0),(1,sL b1)] [] ?_
 refine sN ?_
 refine rs hc none [oN,some (.eqv (.no) ⟨[(7,I (a0.length : Int))],[],[]⟩),oN,some (.eqv (.no) ⟨[(9,I (b1.length : Int))],[],[]⟩),oN] [(0,sL a0),(1,sL b1),(10,.bool ((a0.length : Int) != (b1.length : Int)))] [] (ab (Qcz (d := 7) K10 a0) (Qcz (d := 9) K10 b1) tv) ?_
 refine ic h (fun a1 h => ?_) fun a1 h => ?_
 ·refine rs0 hc 1 [(4,.bool false)] [] ?_
  refine rt ?_
  obtain rfl := os h
  exact rq [true]
 refine sk ?_
 refine sN ?_
 refine rs0 hc 1 [(0,sL a0),(1,sL b1),(5,I 0)] [] ?_
 refine bk 0 ?_
 obtain ⟨fl,a2,h⟩ := Qct h
 have hL := Kpk _ _ a2 c hc
 refine lp ?_
 rcases fl with ⟨⟩ | r
 ·refine WpL.into (e := (.exit 0)) (mkS [] []) hL ?_
  refine Qc7 ?_
  refine rs0 hc 1 [(4,.bool true)] [] ?_
  refine rt ?_
  obtain rfl := os h
  exact rq [true]
 refine WpL.mono hL ?_
 rintro _ _ ⟨rfl,hfin⟩
 obtain rfl := os h
 exact ⟨.inl rfl,hfin⟩
def Kpo (c : Ctx) : Int × (List Int) → Exit → Q0a → Prop
 | (a0,a1) => Qcf c (.exit 0) (mkS [(1,I a0)] [(1000,rI a1)])
def Kpp (p : (List Int) × Int × Int) : Option (Int × (List Int)) :=
 match p with
 | (a0,a1,a2) =>
  if (decide (a2 < (a0.length : Int))) = true then
  (idx a0 a2) >>= fun a3 =>
  Kpp ((List.set a0 (Int.toNat a2) a1),(wr (a1 + 1)),(wr (a2 + 1)))
  else
  some ((a1,a0))
 partial_fixpoint
def Kpq (p : (List Int) × Int × Int) (fl : Int × (List Int)) : Prop :=
 match p with
 | (a0,a1,a2) => ∀ c : Ctx,c.nt = 19 → WpL Tryz.prog c (cl (cl (cr (cl (cr B30))))) (Kpo c fl) (mkS [(0,.rs 1000),(1,I a1),(5,I a2)] [(1000,rI a0)])
theorem Kpr : ∀ p r,Kpp p = some r → Kpq p r := by
 refine Kpp.partial_correctness Kpq ?_
 rintro laws_markIntS_l0_f laws_markIntS_l0_ih ⟨a0,a1,a2⟩ r h
 intro c hc
 refine WpL.step ?_
 refine sN ?_
 refine rss hc none [oN,oN,some (.eqv (.no) ⟨[(8,I (a0.length : Int))],[],[]⟩),oN] [(0,.rs 1000),(1,I a1),(5,I a2),(9,.bool (decide (a2 < (a0.length : Int))))] (ai (Qcz (d := 8) I a0) tv) ?_
 refine ic h (fun a3 h => ?_) fun a3 h => ?_
 ·refine sk ?_
  refine sN ?_
  refine bk 1 ?_
  obtain ⟨a4,a5,h⟩ := Qct h
  refine rs hc none [oN,oN,oN,oN,some (.eqv (.mk 0 true) ⟨[],[(1000,some (.arr (List.map I (List.set a0 (Int.toNat a2) a1))))],[]⟩)] [(0,.rs 1000),(1,I a1),(5,I a2)] [(1000,.arr (List.map I (List.set a0 (Int.toNat a2) a1)))] (ac (Qcy (enc := I) a5) (congrArg (fun z => (⟨[],[(1000,some (.arr z))],[]⟩ : Wr)) (Qdw (enc := I) (i := Int.toNat a2) (l := a0) (v := a1) (x := I a1) (Qd8 a1))) (Qdx (enc := I) (sz := 1) Qdc a5) tv) ?_
  refine K8j hc 3 [(0,.rs 1000),(1,I (wr (a1 + 1))),(5,I a2)] ?_
  refine K8j hc 3 [(0,.rs 1000),(1,I (wr (a1 + 1))),(5,I (wr (a2 + 1)))] ?_
  refine Qcb ?_
  exact (laws_markIntS_l0_ih _ _ h c hc)
 refine xt 0 ?_
 refine Qc5 ?_
 refine Qcc ?_
 obtain ⟨rfl,rfl⟩ := Prod.mk.inj (Option.some.inj h)
 exact iv []
end Go.Am
