/- Functions of the program as pure functions,and that it computes them. Printed by a program of mine (gen.py). -/
import Derived.Test.YtmcpomoofkjfcaaGreatGSVF11
set_option linter.unusedVariables false
set_option linter.unusedSimpArgs false
set_option maxRecDepth 100000
namespace Go.Am
open Go Go.Proofs
def Kn7 : Option (List (List Nat)) := rx [[0],[1],[2],[3],[4],[5],[6],[7],[8],[9],[10],[11],[8],[8,12],[8,12,13],[8,12,13,14],[8,12,13,14,15],[8,12,13,14,15,16],[8,12,13,14,15,16,17],[8,12,13,14,15,16,17,18],[8,12,13,14,15,16,17,18,19],[8,12,13,14,15,16,17,18,19,20],[8,12,13,14,15,16,17,18,19,20,21],[8,12,13,14,15,16,17,18,19,20,21,22],[24],[25],[26]]
mutual
def Kn8 (p : K05 × LL × K01) : Option (K03) :=
 match p with
 | (p0,ctx1,t2) =>
  (chk (0 ≤ (ctx1.length : Int) ∧ (Int.toNat (ctx1.length : Int)) * 8 ≤ 140737488355328)) >>= fun _ =>
  (Kn9 (p0,ctx1,t2,[],[],[],0)) >>= fun fl => match fl with
  | .inl (a0,a1,a2) =>
   (Kn3 (p0,(K03.mk [] (List.replicate (Int.toNat (ctx1.length : Int)) 0) a0 0 []),ctx1,t2,a1,a2)) >>= fun (a3,a4) =>
   if (a3 != 0) = true then
   some (K03.mk [] [] [] a3 [])
   else
   some (K03.mk a4.fty a4.fneeds a4.fkids a3 a4.fpath)
  | .inr r =>
   some r
 partial_fixpoint
def Kn9 (p : K05 × LL × K01 × (List K03) × LL × LL × Int) : Option (((List K03) × LL × LL) ⊕ (K03)) :=
 match p with
 | (p0,ctx1,t2,a0,a1,a2,a3) =>
  if (decide (a3 < (t2.fKids.length : Int))) = true then
  (idx t2.fKids a3) >>= fun a4 =>
  ((
  if (decide (a3 > 0)) = true then
  some (true)
  else
  some ((t2.fOp == 9))
  ) : Option (Bool)) >>= fun a5 =>
  ((
  if a5 = true then
  ((
  if (decide (a3 > 0)) = true then
  (idx a0 0) >>= fun a6 =>
  some (a6.fty)
  else
  some ([])
  ) : Option ((List Int))) >>= fun a7 =>
  (Kk0 (t2,a3,a7)) >>= fun a8 =>
  some (a8)
  else
  some ([])
  ) : Option (LL)) >>= fun a9 =>
  (Kke [a9,ctx1]) >>= fun b1 =>
  (Kn8 (p0,b1,a4)) >>= fun b2 =>
  if (b2.ffault != 0) = true then
  (Qd6 ([a3].length + b2.fpath.length) 8) >>= fun _ =>
  some (.inr (K03.mk [] [] [] b2.ffault ([a3] ++ b2.fpath)))
  else
  (Kki (p0,t2,a3,b2.fty)) >>= fun b3 =>
  if (b3 != 0) = true then
  some (.inr (K03.mk [] [] [] b3 []))
  else
  ((
  if (t2.fOp == 10) = true then
  if (a3 == 1) = true then
  (idx a0 0) >>= fun b4 =>
  (Kjx b4.fty) >>= fun b5 =>
  (idx b5 0) >>= fun b6 =>
  (Kkp (b2.fty,b6)) >>= fun b7 =>
  some ((!b7))
  else
  some (false)
  else
  some (false)
  ) : Option (Bool)) >>= fun b8 =>
  if b8 = true then
  some (.inr (K03.mk [] [] [] 3 []))
  else
  (Qd6 (a0.length + [b2].length) 8) >>= fun _ =>
  (cut b2.fneeds none (some (a9.length : Int)) none) >>= fun b9 =>
  (Qd6 (a2.length + [b9].length) 24) >>= fun _ =>
  (cut b2.fneeds (some (a9.length : Int)) none none) >>= fun c0 =>
  (Qd6 (a1.length + [c0].length) 24) >>= fun _ =>
  Kn9 (p0,ctx1,t2,(a0 ++ [b2]),(a1 ++ [c0]),(a2 ++ [b9]),(wr (a3 + 1)))
  else
  some (.inl (a0,a1,a2))
 partial_fixpoint
end
def Kna (p : K05 × LL × K01) (r : K03) : Prop :=
 match p with
 | (p0,ctx1,t2) => Q71 Tryz.prog 156 [K21 p0,sL ctx1,K1v t2] (.ptr [sI r.fty,sI r.fneeds,.sl (List.map K06 r.fkids),I r.ffault,sI r.fpath] 0) []
def Knb (p : K05 × LL × K01 × (List K03) × LL × LL × Int) (fl : ((List K03) × LL × LL) ⊕ (K03)) : Prop :=
 match p with
 | (p0,ctx1,t2,a0,a1,a2,a3) => ∀ c : Ctx,c.nt = 171 → WpL Tryz.prog c (cl (cl (cr (cl (cr (cr (cr (cr K6x)))))))) (Kn6 c p0 ctx1 t2 fl) (mkS [(1,sL ctx1),(3,.ra 1 0),(5,.ra 2 0),(7,.ra 4 0),(8,.rs 21),(9,.rs 22),(22,.sl (List.map K0g t2.fKids)),(23,I (t2.fKids.length : Int)),(24,I a3)] [(1,K20 p0),(2,K1u t2),(3,.arr (List.map I (List.replicate (Int.toNat (ctx1.length : Int)) 0))),(4,.box [.nils,.rs 3,.rs 20,I 0,.nils]),(20,.arr (List.map K06 a0)),(21,.arr (List.map K10 a1)),(22,.arr (List.map K10 a2))])
theorem Knc : (∀ p r,Kn8 p = some r → Kna p r) ∧ (∀ p r,Kn9 p = some r → Knb p r) := by
 refine Kn8.mutual_partial_correctness Kna Knb ?_ ?_
 ·rintro impl_typertyp_l0_f impl_typertyp_l0_ih ⟨p0,ctx1,t2⟩ r h
  refine b0 Tryz.f156 K6x 171 [(0,K21 p0),(1,sL ctx1),(2,K1v t2)] fun c hc => ?_
  refine rs hc none [some (.new 1),some (.new 2),oN] [(1,sL ctx1),(3,.ra 1 0),(5,.ra 2 0)] [(1,K20 p0),(2,K1u t2)] tv ?_
  obtain ⟨_,a0,h⟩ := Qct h
  refine rs hc none [oN,some (.eqv (.no) ⟨[(17,I (ctx1.length : Int))],[],[]⟩),some (.eqv (.mk 3 true) ⟨[(18,.rs 3)],[(3,some (.arr (List.map I (List.replicate (Int.toNat (ctx1.length : Int)) 0))))],[3]⟩),oN,some (.new 4),oN] [(1,sL ctx1),(3,.ra 1 0),(5,.ra 2 0),(7,.ra 4 0)] [(1,K20 p0),(2,K1u t2),(3,.arr (List.map I (List.replicate (Int.toNat (ctx1.length : Int)) 0))),(4,.box [.nils,.rs 3,.nils,I 0,.nils])] (ac (Qcz (d := 17) K10 ctx1) (congrArg (fun z => (⟨[(18,.rs 3)],[(3,some (.arr z))],[3]⟩ : Wr)) (Qdy (enc := I) (n := Int.toNat (ctx1.length : Int)) (x := I 0) (Qd8 0))) (And.intro (Eq.refl (ctx1.length : Int)) (Qcv a0)) tv) ?_
  refine K8h hc 1 [(1,sL ctx1),(3,.ra 1 0),(5,.ra 2 0),(7,.ra 4 0),(8,.nils)] ?_
  refine K8h hc 1 [(1,sL ctx1),(3,.ra 1 0),(5,.ra 2 0),(7,.ra 4 0),(8,.nils),(9,.nils)] ?_
  refine sN ?_
  refine rss hc none [oN,oN,some (.eqv (.no) ⟨[(23,I (t2.fKids.length : Int))],[],[]⟩),oN] [(1,sL ctx1),(3,.ra 1 0),(5,.ra 2 0),(7,.ra 4 0),(8,.nils),(9,.nils),(22,.sl (List.map K0g t2.fKids)),(23,I (t2.fKids.length : Int)),(24,I 0)] (ai (Qcz (d := 23) K0g t2.fKids) tv) ?_
  refine bk 0 ?_
  obtain ⟨fl,a1,h⟩ := Qct h
  have hL := impl_typertyp_l0_ih _ _ a1 c hc
  refine Wp.loopN (by kernel_rfl) (WpL.view (fun a w hv => SRx.renL [(20,57),(21,58),(22,59)] (SRx.nilTL 9 59 (SRx.nilTL 8 58 (SRx.nilBL 4 2 57 [.nils,.rs 3,.nils,I 0,.nils] hv (by kernel_rfl) (by kernel_rfl) (by kernel_rfl)) (by kernel_rfl) (by kernel_rfl)) (by kernel_rfl) (by kernel_rfl)) (by kernel_rfl) (by kernel_rfl) (by kernel_rfl)) (?_ : WpL _ c _ _ (mkS [(1,sL ctx1),(3,.ra 1 0),(5,.ra 2 0),(7,.ra 4 0),(8,.rs 21),(9,.rs 22),(22,.sl (List.map K0g t2.fKids)),(23,I (t2.fKids.length : Int)),(24,I 0)] [(1,K20 p0),(2,K1u t2),(3,.arr (List.map I (List.replicate (Int.toNat (ctx1.length : Int)) 0))),(4,.box [.nils,.rs 3,.rs 20,I 0,.nils]),(20,.arr (List.map K06 [])),(21,.arr (List.map K10 [])),(22,.arr (List.map K10 []))])))
  rcases fl with ⟨a2,a3,a4⟩ | r
  ·refine WpL.into (e := (.exit 0)) (mkS [(1,sL ctx1),(3,.ra 1 0),(5,.ra 2 0),(7,.ra 4 0),(8,.rs 21),(9,.rs 22)] [(1,K20 p0),(2,K1u t2),(3,.arr (List.map I (List.replicate (Int.toNat (ctx1.length : Int)) 0))),(4,.box [.nils,.rs 3,.rs 20,I 0,.nils]),(20,.arr (List.map K06 a2)),(21,.arr (List.map K10 a3)),(22,.arr (List.map K10 a4))]) hL ?_
   refine Qc7 ?_
   refine sN ?_
   refine vz 21 (K14 a3) [(1,sL ctx1),(3,.ra 1 0),(5,.ra 2 0),(7,.ra 4 0),(8,sL a3),(9,.rs 22)] [(1,K20 p0),(2,K1u t2),(3,.arr (List.map I (List.replicate (Int.toNat (ctx1.length : Int)) 0))),(4,.box [.nils,.rs 3,.rs 20,I 0,.nils]),(20,.arr (List.map K06 a2)),(22,.arr (List.map K10 a4))] ?_
   refine vz 22 (K14 a4) [(1,sL ctx1),(3,.ra 1 0),(5,.ra 2 0),(7,.ra 4 0),(8,sL a3),(9,sL a4)] [(1,K20 p0),(2,K1u t2),(3,.arr (List.map I (List.replicate (Int.toNat (ctx1.length : Int)) 0))),(4,.box [.nils,.rs 3,.rs 20,I 0,.nils]),(20,.arr (List.map K06 a2))] ?_
   obtain ⟨⟨a5,a6⟩,a7,h⟩ := Qct h
   refine rg hc none [oN,oN,oN,oN,oN,oN,oN,some (.call (I a5) [.undef,.optr [sI a6.fty,sI a6.fneeds,.sl (List.map K06 a6.fkids),I a6.ffault,sI a6.fpath],.undef,.undef,.undef,.undef] 1),oN,oN,oN] [(7,.ra 4 0)] [(4,.box [sI a6.fty,sI a6.fneeds,.sl (List.map K06 a6.fkids),I a5,sI a6.fpath])] (ab (Kn5 _ _ a7) K7s tv) ?_
   refine sN ?_
   refine K8h hc 5 [(7,.ra 4 0),(163,.bool (a5 != 0))] ?_
   refine ic h (fun a8 h => ?_) fun a8 h => ?_
   ·refine rs hc none [oN,oN,oN,oN,oN,some (.new 60),oN] [(6,.ra 60 0)] [(60,.box [.nils,.nils,.nils,I a5,.nils])] tv ?_
    refine vb 60 [.nils,.nils,.nils,I a5,.nils] [(6,.ptr [.sl (List.map I []),.sl (List.map I []),.sl (List.map K06 []),I a5,.sl (List.map I [])] 0)] [] ?_
    refine rt ?_
    obtain rfl := os h
    exact rq [false]
   refine sk ?_
   refine K8h hc 2 [(6,.ra 4 0)] ?_
   refine vb 4 [sI a6.fty,sI a6.fneeds,.sl (List.map K06 a6.fkids),I a5,sI a6.fpath] [(6,.ptr [sI a6.fty,sI a6.fneeds,.sl (List.map K06 a6.fkids),I a5,sI a6.fpath] 0)] [] ?_
   refine rt ?_
   obtain rfl := os h
   exact rq [false]
  refine WpL.mono hL ?_
  rintro _ _ ⟨rfl,hfin⟩
  obtain rfl := os h
  exact ⟨.inl rfl,hfin⟩
 ·rintro impl_typertyp_f impl_typertyp_l0_f impl_typertyp_ih impl_typertyp_l0_ih ⟨p0,ctx1,t2,a9,b1,b2,b3⟩ r h
  intro c hc
  refine WpL.step ?_
  refine K8h hc 1 [(1,sL ctx1),(3,.ra 1 0),(5,.ra 2 0),(7,.ra 4 0),(8,.rs 21),(9,.rs 22),(22,.sl (List.map K0g t2.fKids)),(23,I (t2.fKids.length : Int)),(24,I b3),(25,.bool (decide (b3 < (t2.fKids.length : Int))))] ?_
  refine sN ?_
  refine ic h (fun b4 h => ?_) fun b4 h => ?_
  ·refine sk ?_
   refine sN ?_
   refine bk 1 ?_
   obtain ⟨b5,b6,h⟩ := Qct h
   refine rs hc none [oN,some (.el (K1v b5)),oN,some (.new 40),oN,oN] [(1,sL ctx1),(3,.ra 1 0),(5,.ra 2 0),(7,.ra 4 0),(8,.rs 21),(9,.rs 22),(10,I b3),(11,.ra 40 0),(22,.sl (List.map K0g t2.fKids)),(23,I (t2.fKids.length : Int)),(24,I b3)] [(1,K20 p0),(2,K1u t2),(3,.arr (List.map I (List.replicate (Int.toNat (ctx1.length : Int)) 0))),(4,.box [.nils,.rs 3,.rs 20,I 0,.nils]),(20,.arr (List.map K06 a9)),(21,.arr (List.map K10 b1)),(22,.arr (List.map K10 b2)),(40,K1u b5)] (ai (Qcx b6 (K0n b5)) tv) ?_
   refine K8h hc 1 [(1,sL ctx1),(3,.ra 1 0),(5,.ra 2 0),(7,.ra 4 0),(8,.rs 21),(9,.rs 22),(10,I b3),(11,.ra 40 0),(12,.nils),(22,.sl (List.map K0g t2.fKids)),(23,I (t2.fKids.length : Int)),(24,I b3)] ?_
   refine sN ?_
   refine sN ?_
   obtain ⟨b7,b8,h⟩ := Qct h
   refine Wp.into (x := .normal) (mkS [(1,sL ctx1),(3,.ra 1 0),(5,.ra 2 0),(7,.ra 4 0),(8,.rs 21),(9,.rs 22),(10,I b3),(11,.ra 40 0),(12,.nils),(22,.sl (List.map K0g t2.fKids)),(23,I (t2.fKids.length : Int)),(24,I b3),(35,.bool b7)] [(1,K20 p0),(2,K1u t2),(3,.arr (List.map I (List.replicate (Int.toNat (ctx1.length : Int)) 0))),(4,.box [.nils,.rs 3,.rs 20,I 0,.nils]),(20,.arr (List.map K06 a9)),(21,.arr (List.map K10 b1)),(22,.arr (List.map K10 b2)),(40,K1u b5)]) ?_ ?_
   ·replace h := b8
    rcases is h with ⟨b9,h⟩ | ⟨b9,h⟩
    ·refine rgs hc none [oN,oN,oN,o_,o_,o_,oT] [(1,sL ctx1),(3,.ra 1 0),(5,.ra 2 0),(7,.ra 4 0),(8,.rs 21),(9,.rs 22),(10,I b3),(11,.ra 40 0),(12,.nils),(22,.sl (List.map K0g t2.fKids)),(23,I (t2.fKids.length : Int)),(24,I b3),(35,.bool true)] (ar 3 (neF b9) (ai b9 tv)) ?_
     obtain rfl := os h
     exact Qcf.mk
    refine rgs hc none [oN,oN,oN,oN,oN,oN,oF] [(1,sL ctx1),(3,.ra 1 0),(5,.ra 2 0),(7,.ra 4 0),(8,.rs 21),(9,.rs 22),(10,I b3),(11,.ra 40 0),(12,.nils),(22,.sl (List.map K0g t2.fKids)),(23,I (t2.fKids.length : Int)),(24,I b3),(35,.bool (t2.fOp == 9))] (ar 4 b9 tv) ?_
    obtain rfl := os h
    exact Qcf.mk
   clear b8
   obtain ⟨c0,c1,h⟩ := Qct h
   refine Wp.into (x := .normal) (mkS [(1,sL ctx1),(3,.ra 1 0),(5,.ra 2 0),(7,.ra 4 0),(8,.rs 21),(9,.rs 22),(10,I b3),(11,.ra 40 0),(12,.rs 41),(22,.sl (List.map K0g t2.fKids)),(23,I (t2.fKids.length : Int)),(24,I b3)] [(1,K20 p0),(2,K1u t2),(3,.arr (List.map I (List.replicate (Int.toNat (ctx1.length : Int)) 0))),(4,.box [.nils,.rs 3,.rs 20,I 0,.nils]),(20,.arr (List.map K06 a9)),(21,.arr (List.map K10 b1)),(22,.arr (List.map K10 b2)),(40,K1u b5),(41,.arr (List.map K10 c0))]) ?_ ?_
   ·replace h := c1
    refine ic h (fun c2 h => ?_) fun c2 h => ?_
    ·refine K8h hc 1 [(1,sL ctx1),(3,.ra 1 0),(5,.ra 2 0),(7,.ra 4 0),(8,.rs 21),(9,.rs 22),(10,I b3),(11,.ra 40 0),(13,.nils),(22,.sl (List.map K0g t2.fKids)),(23,I (t2.fKids.length : Int)),(24,I b3)] ?_
     refine sN ?_
     refine K8h hc 2 [(1,sL ctx1),(3,.ra 1 0),(5,.ra 2 0),(7,.ra 4 0),(8,.rs 21),(9,.rs 22),(10,I b3),(11,.ra 40 0),(13,.nils),(22,.sl (List.map K0g t2.fKids)),(23,I (t2.fKids.length : Int)),(24,I b3),(37,.bool (decide (b3 > 0)))] ?_
     obtain ⟨c3,c4,h⟩ := Qct h
     refine Wp.into (x := .normal) (mkS [(1,sL ctx1),(3,.ra 1 0),(5,.ra 2 0),(7,.ra 4 0),(8,.rs 21),(9,.rs 22),(10,I b3),(11,.ra 40 0),(13,sI c3),(22,.sl (List.map K0g t2.fKids)),(23,I (t2.fKids.length : Int)),(24,I b3)] [(1,K20 p0),(2,K1u t2),(3,.arr (List.map I (List.replicate (Int.toNat (ctx1.length : Int)) 0))),(4,.box [.nils,.rs 3,.rs 20,I 0,.nils]),(20,.arr (List.map K06 a9)),(21,.arr (List.map K10 b1)),(22,.arr (List.map K10 b2)),(40,K1u b5)]) ?_ ?_
     ·replace h := c4
      refine ic h (fun c5 h => ?_) fun c5 h => ?_
      ·obtain ⟨c6,c7,h⟩ := Qct h
       refine rgs hc none [oN,oN,oN,oN,oN,some (.el (.ptr [sI c6.fty,sI c6.fneeds,.sl (List.map K06 c6.fkids),I c6.ffault,sI c6.fpath] 0)),oN,oN,oN,oN] [(1,sL ctx1),(3,.ra 1 0),(5,.ra 2 0),(7,.ra 4 0),(8,.rs 21),(9,.rs 22),(10,I b3),(11,.ra 40 0),(13,sI c6.fty),(22,.sl (List.map K0g t2.fKids)),(23,I (t2.fKids.length : Int)),(24,I b3)] (ab (Qcy (enc := K06) c7) (Qcx (enc := K06) (x := .ptr [sI c6.fty,sI c6.fneeds,.sl (List.map K06 c6.fkids),I c6.ffault,sI c6.fpath] 0) c7 (K09 c6)).2 tv) ?_
       obtain rfl := os h
       exact Qcf.mk
      refine sk ?_
      obtain rfl := os h
      exact Qcf.view (fun a w hv => SRx.renL [] (SRx.nilSL 13 hv (by kernel_rfl)) (by kernel_rfl) (by kernel_rfl) (by kernel_rfl))
     clear c4
     obtain ⟨c8,c9,h⟩ := Qct h
     refine rg hc none [oN,oN,oN,some (.call (.osl (List.map K10 c8)) [] 41),oN] [(1,sL ctx1),(3,.ra 1 0),(5,.ra 2 0),(7,.ra 4 0),(8,.rs 21),(9,.rs 22),(10,I b3),(11,.ra 40 0),(12,.rs 41),(22,.sl (List.map K0g t2.fKids)),(23,I (t2.fKids.length : Int)),(24,I b3)] [(1,K20 p0),(2,K1u t2),(3,.arr (List.map I (List.replicate (Int.toNat (ctx1.length : Int)) 0))),(4,.box [.nils,.rs 3,.rs 20,I 0,.nils]),(20,.arr (List.map K06 a9)),(21,.arr (List.map K10 b1)),(22,.arr (List.map K10 b2)),(40,K1u b5),(41,.arr (List.map K10 c8))] (cq (Kk2 _ _ c9) K6s tv) ?_
     obtain rfl := os h
     exact Qcf.mk
    refine sk ?_
    obtain rfl := os h
    exact Qcf.view (fun a w hv => SRx.renL [(41,42)] (SRx.nilTL 12 42 hv (by kernel_rfl) (by kernel_rfl)) (by kernel_rfl) (by kernel_rfl) (by kernel_rfl))
   clear c1
   refine sN ?_
   refine vz 41 (K14 c0) [(1,sL ctx1),(3,.ra 1 0),(5,.ra 2 0),(7,.ra 4 0),(8,.rs 21),(9,.rs 22),(10,I b3),(11,.ra 40 0),(12,sL c0),(22,.sl (List.map K0g t2.fKids)),(23,I (t2.fKids.length : Int)),(24,I b3)] [(1,K20 p0),(2,K1u t2),(3,.arr (List.map I (List.replicate (Int.toNat (ctx1.length : Int)) 0))),(4,.box [.nils,.rs 3,.rs 20,I 0,.nils]),(20,.arr (List.map K06 a9)),(21,.arr (List.map K10 b1)),(22,.arr (List.map K10 b2)),(40,K1u b5)] ?_
   obtain ⟨d0,d1,d2,d3,h⟩ := bq2 h
   refine rg hc (rx [[0],[0],[0],[0,1,2],[0,1,2,3],[0],[6],[7]]) [oN,oN,oN,some (.mk 44 false),some (.call (sL d0) [.tup []] 1),oN,oc (.ptr [sI d2.fty,sI d2.fneeds,.sl (List.map K06 d2.fkids),I d2.ffault,sI d2.fpath] 0),oN] [(1,sL ctx1),(3,.ra 1 0),(5,.ra 2 0),(7,.ra 4 0),(8,.rs 21),(9,.rs 22),(10,I b3),(12,sL c0),(14,.ptr [sI d2.fty,sI d2.fneeds,.sl (List.map K06 d2.fkids),I d2.ffault,sI d2.fpath] 0),(22,.sl (List.map K0g t2.fKids)),(23,I (t2.fKids.length : Int)),(24,I b3)] [(1,K20 p0),(2,K1u t2),(3,.arr (List.map I (List.replicate (Int.toNat (ctx1.length : Int)) 0))),(4,.box [.nils,.rs 3,.rs 20,I 0,.nils]),(20,.arr (List.map K06 a9)),(21,.arr (List.map K10 b1)),(22,.arr (List.map K10 b2))] (ab (Q71.args (A1 := [.sl (Q02 (List.map K1n [c0,ctx1]))]) (A2 := [.sl (List.map K1n [c0,ctx1])]) (by simp only [List.map_nil,K1r]) (Kkg _ _ d1)) K6w (cq (impl_typertyp_ih _ _ d3) K6y tv)) ?_
   refine sN ?_
   refine K8h hc 5 [(1,sL ctx1),(3,.ra 1 0),(5,.ra 2 0),(7,.ra 4 0),(8,.rs 21),(9,.rs 22),(10,I b3),(12,sL c0),(14,.ptr [sI d2.fty,sI d2.fneeds,.sl (List.map K06 d2.fkids),I d2.ffault,sI d2.fpath] 0),(22,.sl (List.map K0g t2.fKids)),(23,I (t2.fKids.length : Int)),(24,I b3),(62,.bool (d2.ffault != 0))] ?_
   refine ic h (fun d4 h => ?_) fun d4 h => ?_
   ·obtain ⟨_,d5,h⟩ := Qct h
    refine rs hc (rx [[0],[1],[2],[3],[0],[0,4],[0],[0,6],[0,6,7],[0,6,7,8],[0,4,5,6,7,8,9],[11],[12],[13]]) [oN,oN,oN,oN,oN,some (.mk 45 true),oN,oN,oN,oN,some (.eqv (.mk 46 true) ⟨[(73,.rs 46)],[(46,some (rI ([b3] ++ d2.fpath))),(45,none)],[46]⟩),oN,some (.new 47),oN] [(6,.ra 47 0)] [(46,rI ([b3] ++ d2.fpath)),(47,.box [.nils,.nils,.nils,I d2.ffault,.rs 46])] (ab (congrArg (fun z => (⟨[(73,.rs 46)],[(46,some (.arr z)),(45,none)],[46]⟩ : Wr)) ((List.map_append).symm : (List.map I [b3]) ++ (List.map I d2.fpath) = List.map I ([b3] ++ d2.fpath))) (Qd7 (enc1 := I) (enc2 := I) (e1 := [b3]) (e2 := d2.fpath) (sz := 1) Qdg Qdg d5) tv) ?_
    refine vz 46 (Qdl ([b3] ++ d2.fpath)) [(6,.ra 47 0)] [(47,.box [.nils,.nils,.nils,I d2.ffault,sI ([b3] ++ d2.fpath)])] ?_
    refine vb 47 [.nils,.nils,.nils,I d2.ffault,sI ([b3] ++ d2.fpath)] [(6,.ptr [.sl (List.map I []),.sl (List.map I []),.sl (List.map K06 []),I d2.ffault,sI ([b3] ++ d2.fpath)] 0)] [] ?_
    refine rt ?_
    obtain rfl := os h
    exact re [false]
   refine sk ?_
   refine sN ?_
   obtain ⟨d6,d7,h⟩ := Qct h
   refine rss hc (rx [[0],[0],[0],[0],[0,3],[0,3,4],[0,3,4,5],[7],[8]]) [oN,oN,oN,oN,oN,oN,oN,oc (I d6),oN] [(1,sL ctx1),(3,.ra 1 0),(5,.ra 2 0),(7,.ra 4 0),(8,.rs 21),(9,.rs 22),(10,I b3),(12,sL c0),(14,.ptr [sI d2.fty,sI d2.fneeds,.sl (List.map K06 d2.fkids),I d2.ffault,sI d2.fpath] 0),(15,I d6),(22,.sl (List.map K0g t2.fKids)),(23,I (t2.fKids.length : Int)),(24,I b3)] (cq (Kkk _ _ d7) K70 tv) ?_
   refine K8h hc 2 [(1,sL ctx1),(3,.ra 1 0),(5,.ra 2 0),(7,.ra 4 0),(8,.rs 21),(9,.rs 22),(10,I b3),(12,sL c0),(14,.ptr [sI d2.fty,sI d2.fneeds,.sl (List.map K06 d2.fkids),I d2.ffault,sI d2.fpath] 0),(15,I d6),(22,.sl (List.map K0g t2.fKids)),(23,I (t2.fKids.length : Int)),(24,I b3),(85,.bool (d6 != 0))] ?_
   refine ic h (fun d8 h => ?_) fun d8 h => ?_
   ·refine rs hc none [oN,oN,some (.new 48),oN] [(6,.ra 48 0)] [(48,.box [.nils,.nils,.nils,I d6,.nils])] tv ?_
    refine vb 48 [.nils,.nils,.nils,I d6,.nils] [(6,.ptr [.sl (List.map I []),.sl (List.map I []),.sl (List.map K06 []),I d6,.sl (List.map I [])] 0)] [] ?_
    refine rt ?_
    obtain rfl := os h
    exact re [false]
   refine sk ?_
   refine sN ?_
   refine sN ?_
   obtain ⟨d9,e0,h⟩ := Qct h
   refine Wp.into (x := .normal) (mkS [(1,sL ctx1),(3,.ra 1 0),(5,.ra 2 0),(7,.ra 4 0),(8,.rs 21),(9,.rs 22),(12,sL c0),(14,.ptr [sI d2.fty,sI d2.fneeds,.sl (List.map K06 d2.fkids),I d2.ffault,sI d2.fpath] 0),(22,.sl (List.map K0g t2.fKids)),(23,I (t2.fKids.length : Int)),(24,I b3),(115,.bool d9)] [(1,K20 p0),(2,K1u t2),(3,.arr (List.map I (List.replicate (Int.toNat (ctx1.length : Int)) 0))),(4,.box [.nils,.rs 3,.rs 20,I 0,.nils]),(20,.arr (List.map K06 a9)),(21,.arr (List.map K10 b1)),(22,.arr (List.map K10 b2))]) ?_ ?_
   ·replace h := e0
    rcases is h with ⟨e3,h⟩ | ⟨e3,h⟩
    ·rcases is h with ⟨e4,h⟩ | ⟨e4,h⟩
     ·obtain ⟨e5,e6,e7,e8,e9,f0,f1,f2,h⟩ := bq4 h
      refine rgs hc Kn7 [oN,oN,oN,oN,oN,oN,oT,oN,oN,oN,oN,oN,oN,oN,oN,oN,oN,some (.el (.ptr [sI e5.fty,sI e5.fneeds,.sl (List.map K06 e5.fkids),I e5.ffault,sI e5.fpath] 0)),oN,oN,oN,some (.call (.osl (List.map K10 e7)) [] 49),oN,some (.el (sI e9)),oc (.bool f1),oN,oT] [(1,sL ctx1),(3,.ra 1 0),(5,.ra 2 0),(7,.ra 4 0),(8,.rs 21),(9,.rs 22),(12,sL c0),(14,.ptr [sI d2.fty,sI d2.fneeds,.sl (List.map K06 d2.fkids),I d2.ffault,sI d2.fpath] 0),(22,.sl (List.map K0g t2.fKids)),(23,I (t2.fKids.length : Int)),(24,I b3),(115,.bool (!f1))] (ar 3 e3 (ar 9 e4 (ac (Qcy (enc := K06) e6) e4 (Qcx (enc := K06) (x := .ptr [sI e5.fty,sI e5.fneeds,.sl (List.map K06 e5.fkids),I e5.ffault,sI e5.fpath] 0) e6 (K09 e5)).2 (ar 4 e4 (cq (Kjz _ _ e8) K6q (ad e4 (Qcy (enc := K10) f0) e4 (xL f0).2 (ai e4 (cq (Kkr _ _ f2) K71 (ar 2 e4 tv))))))))) ?_
      obtain rfl := os h
      exact Qcf.mk
     refine rgs hc Kn7 [oN,oN,oN,oN,oN,oN,oT,oN,o_,o_,o_,o_,o_,o_,o_,o_,o_,o_,o_,o_,o_,o_,o_,o_,o_,o_,oF] [(1,sL ctx1),(3,.ra 1 0),(5,.ra 2 0),(7,.ra 4 0),(8,.rs 21),(9,.rs 22),(12,sL c0),(14,.ptr [sI d2.fty,sI d2.fneeds,.sl (List.map K06 d2.fkids),I d2.ffault,sI d2.fpath] 0),(22,.sl (List.map K0g t2.fKids)),(23,I (t2.fKids.length : Int)),(24,I b3),(115,.bool false)] (ar 3 e3 (ar 18 (neT e4) (ai e4 tv))) ?_
     obtain rfl := os h
     exact Qcf.mk
    refine rgs hc Kn7 [oN,oN,oN,oN,o_,o_,oF,oN,o_,o_,o_,o_,o_,o_,o_,o_,o_,o_,o_,o_,o_,o_,o_,o_,o_,o_,oF] [(1,sL ctx1),(3,.ra 1 0),(5,.ra 2 0),(7,.ra 4 0),(8,.rs 21),(9,.rs 22),(12,sL c0),(14,.ptr [sI d2.fty,sI d2.fneeds,.sl (List.map K06 d2.fkids),I d2.ffault,sI d2.fpath] 0),(22,.sl (List.map K0g t2.fKids)),(23,I (t2.fKids.length : Int)),(24,I b3),(115,.bool false)] (ar 2 (neT e3) (ai e3 (ar 18 (neT (rfl : false = false)) (ai (rfl : false = false) tv)))) ?_
    obtain rfl := os h
    exact Qcf.mk
   clear e0
   refine ic h (fun f3 h => ?_) fun f3 h => ?_
   ·refine rs hc none [oN,some (.new 50),oN] [(6,.ra 50 0)] [(50,.box [.nils,.nils,.nils,I 3,.nils])] tv ?_
    refine vb 50 [.nils,.nils,.nils,I 3,.nils] [(6,.ptr [.sl (List.map I []),.sl (List.map I []),.sl (List.map K06 []),I 3,.sl (List.map I [])] 0)] [] ?_
    refine rt ?_
    obtain rfl := os h
    exact re [false]
   refine sk ?_
   obtain ⟨_,f4,h⟩ := Qct h
   refine rs hc none [oN,oN,oN,oN,oN,oN,some (.eqv (.mk 51 false) ⟨[(124,.rs 51)],[(51,some (.arr (List.map K06 [d2])))],[51]⟩),some (.eqv (.mk 52 true) ⟨[(125,.rs 52)],[(52,some (.arr (List.map K06 (a9 ++ [d2])))),(20,none),(51,none)],[52]⟩),oN,oN,oN] [(1,sL ctx1),(3,.ra 1 0),(5,.ra 2 0),(7,.ra 4 0),(8,.rs 21),(9,.rs 22),(12,sL c0),(14,.ptr [sI d2.fty,sI d2.fneeds,.sl (List.map K06 d2.fkids),I d2.ffault,sI d2.fpath] 0),(22,.sl (List.map K0g t2.fKids)),(23,I (t2.fKids.length : Int)),(24,I b3)] [(1,K20 p0),(2,K1u t2),(3,.arr (List.map I (List.replicate (Int.toNat (ctx1.length : Int)) 0))),(4,.box [.nils,.rs 3,.rs 52,I 0,.nils]),(21,.arr (List.map K10 b1)),(22,.arr (List.map K10 b2)),(52,.arr (List.map K06 (a9 ++ [d2])))] (ac (congrArg (fun z => (⟨[(124,.rs 51)],[(51,some (.arr z))],[51]⟩ : Wr)) ((Qe0 (K09 d2) Qdz) : [AV.ptr [sI d2.fty,sI d2.fneeds,.sl (List.map K06 d2.fkids),I d2.ffault,sI d2.fpath] 0] = List.map K06 [d2])) (congrArg (fun z => (⟨[(125,.rs 52)],[(52,some (.arr z)),(20,none),(51,none)],[52]⟩ : Wr)) ((List.map_append).symm : (List.map K06 a9) ++ (List.map K06 [d2]) = List.map K06 (a9 ++ [d2]))) (Qd7 (enc1 := K06) (enc2 := K06) (e1 := a9) (e2 := [d2]) (sz := 1) K0c K0c f4) tv) ?_
   obtain ⟨f5,f6,_,f7,f8,f9,_,g0,h⟩ := bq4 h
   refine rg hc (rx [[0],[0],[0,1],[0,1,2],[0,1,2,3],[0],[0,5],[0,1,2,3,4,5,6],[0,1,2,3,4,5,6,7],[9],[0],[0],[0,11],[0,11,12],[0,11,12,13],[0],[0,15],[0,11,12,13,14,15,16],[0,11,12,13,14,15,16,17],[19],[20],[21]]) [oN,oN,oN,oN,oN,oN,some (.eqv (.no) ⟨[(134,I (c0.length : Int))],[],[]⟩),some (.eqv (.no) ⟨[(135,sI f5)],[],[]⟩),some (.mk 53 false),some (.eqv (.mk 54 true) ⟨[(137,.rs 54)],[(54,some (.arr (List.map K10 (b2 ++ [f5])))),(22,none),(53,none)],[54]⟩),oN,oN,oN,oN,oN,oN,some (.eqv (.no) ⟨[(144,I (c0.length : Int))],[],[]⟩),some (.eqv (.no) ⟨[(145,sI f8)],[],[]⟩),some (.mk 55 false),some (.eqv (.mk 56 true) ⟨[(147,.rs 56)],[(56,some (.arr (List.map K10 (b1 ++ [f8])))),(21,none),(55,none)],[56]⟩),oN,oN] [(1,sL ctx1),(3,.ra 1 0),(5,.ra 2 0),(7,.ra 4 0),(8,.rs 56),(9,.rs 54),(22,.sl (List.map K0g t2.fKids)),(23,I (t2.fKids.length : Int)),(24,I b3)] [(1,K20 p0),(2,K1u t2),(3,.arr (List.map I (List.replicate (Int.toNat (ctx1.length : Int)) 0))),(4,.box [.nils,.rs 3,.rs 52,I 0,.nils]),(52,.arr (List.map K06 (a9 ++ [d2]))),(54,.arr (List.map K10 (b2 ++ [f5]))),(56,.arr (List.map K10 (b1 ++ [f8])))] (ad (Qcz (d := 134) K10 c0) (Qd2 (d := 135) I f6) (Qd1 (enc := I) (sz := 1) Qdc f6) (congrArg (fun z => (⟨[(137,.rs 54)],[(54,some (.arr z)),(22,none),(53,none)],[54]⟩ : Wr)) ((List.map_append).symm : (List.map K10 b2) ++ (List.map K10 [f5]) = List.map K10 (b2 ++ [f5]))) (ad (Qd7 (enc1 := K10) (enc2 := K10) (e1 := b2) (e2 := [f5]) (sz := 1) K13 K13 f7) (Qcz (d := 144) K10 c0) (Qd2 (d := 145) I f9) (Qd1 (enc := I) (sz := 1) Qdc f9) (ab (congrArg (fun z => (⟨[(147,.rs 56)],[(56,some (.arr z)),(21,none),(55,none)],[56]⟩ : Wr)) ((List.map_append).symm : (List.map K10 b1) ++ (List.map K10 [f8]) = List.map K10 (b1 ++ [f8]))) (Qd7 (enc1 := K10) (enc2 := K10) (e1 := b1) (e2 := [f8]) (sz := 1) K13 K13 g0) tv))) ?_
   refine K8g hc 2 [(1,sL ctx1),(3,.ra 1 0),(5,.ra 2 0),(7,.ra 4 0),(8,.rs 56),(9,.rs 54),(22,.sl (List.map K0g t2.fKids)),(23,I (t2.fKids.length : Int)),(24,I (wr (b3 + 1)))] ?_
   refine Qcb ?_
   exact WpL.view (fun a w hv => SRx.renL [(20,52),(21,56),(22,54)] hv (by kernel_rfl) (by kernel_rfl) (by kernel_rfl)) (impl_typertyp_l0_ih _ _ h c hc)
  refine xt 0 ?_
  refine Qc5 ?_
  refine Qcc ?_
  obtain rfl := os h
  exact iv []
theorem Knd : ∀ p r,Kn8 p = some r → Kna p r := Knc.1
theorem Kne : ∀ p r,Kn9 p = some r → Knb p r := Knc.2
def Knf (p : K00 × LL × K01) : Option (Option K03) :=
 match p with
 | (s0,ctx1,t2) =>
  ((
  (Kia s0) >>= fun a0 =>
  if a0 = true then
  (Kj6 (s0,ctx1)) >>= fun a1 =>
  if a1 = true then
  (Kjq (s0,t2,(ctx1.length : Int))) >>= fun a2 =>
  some ((!a2))
  else
  some (true)
  else
  some (true)
  ) : Option (Bool)) >>= fun a3 =>
  if a3 = true then
  some none
  else
  (Kn8 ((K05.mk s0),ctx1,t2)) >>= fun a4 =>
  some (some a4)
def Kng (p : K00 × LL × K01) (r : Option K03) : Prop :=
 match p with
 | (s0,ctx1,t2) => Q71 Tryz.prog 76 [K1t s0,sL ctx1,K1v t2] (K0a r) []
theorem Knh : ∀ p r,Knf p = some r → Kng p r := by
 rintro ⟨s0,ctx1,t2⟩ r h
 unfold Knf at h
 refine b0 Tryz.f76 B76 29 [(0,K1t s0),(1,sL ctx1),(2,K1v t2)] fun c hc => ?_
 refine rs hc none [some (.new 1),some (.new 2),oN] [(1,sL ctx1),(3,.ra 1 0),(5,.ra 2 0)] [(1,K1s s0),(2,K1u t2)] tv ?_
 refine sN ?_
 refine sN ?_
 obtain ⟨a0,a1,h⟩ := Qct h
 refine Wp.into (x := .normal) (mkS [(1,sL ctx1),(3,.ra 1 0),(5,.ra 2 0),(23,.bool a0)] [(1,K1s s0),(2,K1u t2)]) ?_ ?_
 ·replace h := a1
  obtain ⟨a2,a3,h⟩ := Qct h
  rcases is h with ⟨a4,h⟩ | ⟨a4,h⟩
  ·obtain ⟨a5,a6,h⟩ := Qct h
   rcases is h with ⟨a7,h⟩ | ⟨a7,h⟩
   ·obtain ⟨a8,a9,h⟩ := Qct h
    refine rgs hc none [oN,oc (.bool a2),oN,oN,oN,oN,oc (.bool a5),oN,oF,oN,oN,oN,oN,some (.eqv (.no) ⟨[(20,I (ctx1.length : Int))],[],[]⟩),oc (.bool a8),oN,oF] [(1,sL ctx1),(3,.ra 1 0),(5,.ra 2 0),(23,.bool (!a8))] (cq (Kic _ _ a3) K5y (ar 3 (nF a4) (cq (Kj8 _ _ a6) K6e (ar 2 (nF a4) (ar 4 (nF a7) (ab (Qcz (d := 20) K10 ctx1) (nF a7) (cq (Kjs _ _ a9) K6o (ar 2 (nF a7) tv)))))))) ?_
    obtain rfl := os h
    exact Qcf.mk
   refine rgs hc none [oN,oc (.bool a2),oN,oN,oN,oN,oc (.bool a5),oN,oF,oN,o_,o_,o_,o_,o_,o_,oT] [(1,sL ctx1),(3,.ra 1 0),(5,.ra 2 0),(23,.bool true)] (cq (Kic _ _ a3) K5y (ar 3 (nF a4) (cq (Kj8 _ _ a6) K6e (ar 2 (nF a4) (ar 6 (neF (nT a7)) (ai (nT a7) tv)))))) ?_
   obtain rfl := os h
   exact Qcf.mk
  refine rgs hc none [oN,oc (.bool a2),oN,oN,o_,o_,o_,o_,oT,oN,o_,o_,o_,o_,o_,o_,oT] [(1,sL ctx1),(3,.ra 1 0),(5,.ra 2 0),(23,.bool true)] (cq (Kic _ _ a3) K5y (ar 4 (neF (nT a4)) (ai (nT a4) (ar 6 nf (ai tt tv))))) ?_
  obtain rfl := os h
  exact Qcf.mk
 clear a1
 refine ic h (fun b1 h => ?_) fun b1 h => ?_
 ·refine rs0 hc 1 [(6,.nilp)] [] ?_
  refine rt ?_
  obtain rfl := os h
  exact rq [false]
 refine sk ?_
 obtain ⟨b2,b3,h⟩ := Qct h
 refine rs hc none [oN,oN,oN,oN,oc (.ptr [sI b2.fty,sI b2.fneeds,.sl (List.map K06 b2.fkids),I b2.ffault,sI b2.fpath] 0),oN] [(6,.ptr [sI b2.fty,sI b2.fneeds,.sl (List.map K06 b2.fkids),I b2.ffault,sI b2.fpath] 0)] [] (cq (Knd _ _ b3) K6y tv) ?_
 refine rt ?_
 obtain rfl := os h
 exact rq [false]
def Kni (p : K00 × LL × K01) : Option ((List Int) × (List Int) × Bool) :=
 match p with
 | (s0,ctx1,t2) =>
  (Knf (s0,ctx1,t2)) >>= fun a0 =>
  match a0 with
  | none =>
   some ([],[],false)
  | some a1 =>
   if (a1.ffault != 0) = true then
   some ([],[],false)
   else
   (Kks a1.fty) >>= fun a2 =>
   (Kks a1.fneeds) >>= fun a3 =>
   some (a2,a3,true)
def Knj (p : K00 × LL × K01) (r : (List Int) × (List Int) × Bool) : Prop :=
 match p with
 | (s0,ctx1,t2) => Q71 Tryz.prog 22 [K1t s0,sL ctx1,K1v t2] (.tup [oI r.1,.osl (List.map I r.2.1),.bool r.2.2]) []
theorem Knk : ∀ p r,Kni p = some r → Knj p r := by
 rintro ⟨s0,ctx1,t2⟩ r h
 unfold Kni at h
 refine b0 Tryz.f22 B22 33 [(0,K1t s0),(1,sL ctx1),(2,K1v t2)] fun c hc => ?_
 refine rs hc none [some (.new 1),some (.new 2),oN,oN,oN] [(1,sL ctx1),(3,.ra 1 0),(5,.ra 2 0)] [(1,K1s s0),(2,K1u t2)] tv ?_
 refine sN ?_
 obtain ⟨a0,a1,h⟩ := Qct h
 rcases a0 with _ | a2
 ·refine rg hc none [oN,oN,oN,oc (.nilp),oN] [(9,.nilp)] [] (cq (Knh _ _ a1) K7t tv) ?_
  refine sN ?_
  refine rs hc none [oN,oN,oN,o_,o_,o_,o_,o_,oT] [(9,.nilp),(22,.bool true)] [] (ar 5 nf (ai tt tv)) ?_
  refine cT true (rfl : true = true) ?_
  refine rs0 hc 3 [(6,.nils),(7,.nils),(8,.bool false)] [] ?_
  refine rt ?_
  obtain rfl := os h
  exact rq [true,true,true]
 refine rg hc none [oN,oN,oN,oc (.ptr [sI a2.fty,sI a2.fneeds,.sl (List.map K06 a2.fkids),I a2.ffault,sI a2.fpath] 0),oN] [(9,.ptr [sI a2.fty,sI a2.fneeds,.sl (List.map K06 a2.fkids),I a2.ffault,sI a2.fpath] 0)] [] (cq (Knh _ _ a1) K7t tv) ?_
 refine sN ?_
 refine rs hc none [oN,oN,oN,oN,oN,oN,oN,oN,oF] [(9,.ptr [sI a2.fty,sI a2.fneeds,.sl (List.map K06 a2.fkids),I a2.ffault,sI a2.fpath] 0),(22,.bool (a2.ffault != 0))] [] (ar 6 (rfl : false = false) tv) ?_
 refine ic h (fun a3 h => ?_) fun a3 h => ?_
 ·refine rs0 hc 3 [(6,.nils),(7,.nils),(8,.bool false)] [] ?_
  refine rt ?_
  obtain rfl := os h
  exact rq [true,true,true]
 refine sk ?_
 obtain ⟨a4,a5,a6,a7,h⟩ := bq2 h
 refine rs hc (rx [[0],[1],[2],[3],[4],[0],[0,5],[0,5,6],[0,5,6,7],[9],[10],[11],[12]]) [oN,oN,oN,oN,some (.call (oI a4) [] 3),oN,oN,oN,oN,some (.call (oI a6) [] 4),oN,oN,oN] [(6,.rs 3),(7,.rs 4),(8,.bool true)] [(3,rI a4),(4,rI a6)] (cq (Kku _ _ a5) K72 (cq (Kku _ _ a7) K72 tv)) ?_
 refine rt ?_
 obtain rfl := os h
 exact rq [true,true,true]
def Knl (c : Ctx) (s0 : K00) (in1 : List Bool) (a0 : Int) : (Unit) ⊕ (Bool) → Exit → Q0a → Prop
 | .inl _ => Qcf c (.exit 2) (mkS [(1,sB in1),(2,.ra 1 0),(5,I a0)] [(1,K1s s0)])
 | .inr r => Qco TIx Tryz.f159 [] (.bool r)
def Knm : Option (List (List Nat)) := rx [[0],[0],[0],[0],[0,1,2,3],[5],[6],[0],[0],[0,7,8],[0,7,8,9],[0,1,2,3,4,7,8,9,10],[0,1,2,3,4,7,8,9,10,11],[0,1,2,3,4,7,8,9,10,11],[0,1,2,3,4,7,8,9,10,11,12,13],[0,1,2,3,4,7,8,9,10,11,12,13,14],[0,1,2,3,4,7,8,9,10,11,12,13,14,15],[17],[18],[19],[19],[19],[19],[19,20,21,22],[24],[25],[19],[19],[19,26,27],[19,26,27,28],[19,20,21,22,23,26,27,28,29],[19,20,21,22,23,26,27,28,29,30],[19,20,21,22,23,26,27,28,29,30],[19,20,21,22,23,26,27,28,29,30,31,32],[19,20,21,22,23,26,27,28,29,30,31,32,33],[19,20,21,22,23,26,27,28,29,30,31,32,33,34],[36],[37],[38],[39],[39],[41],[42],[43],[44],[44],[44],[47],[48],[49],[50],[50],[52],[53],[54],[55],[56]]
def Knn (p : K00 × (List Bool) × Int × Int) : Option ((Unit) ⊕ (Bool)) :=
 match p with
 | (s0,in1,a0,a1) =>
  if (decide (a1 < s0.fSize)) = true then
  ((
  (Kh1 (s0,a0,a1)) >>= fun a2 =>
  (idx in1 a2) >>= fun a3 =>
  (idx in1 a0) >>= fun a4 =>
  if a4 = true then
  if (a3 == true) = true then
  (Kh4 (s0,a0,a1)) >>= fun a5 =>
  (idx in1 a5) >>= fun a6 =>
  (idx in1 a0) >>= fun a7 =>
  if a7 = true then
  (idx in1 a1) >>= fun a8 =>
  if (a6 == a8) = true then
  (idx in1 a0) >>= fun a9 =>
  if a9 = true then
  (Kh7 (s0,a0,a1)) >>= fun b1 =>
  if b1 = true then
  (idx in1 a1) >>= fun b2 =>
  some ((!b2))
  else
  some (false)
  else
  some (false)
  else
  some (true)
  else
  if (a6 == false) = true then
  (idx in1 a0) >>= fun a9 =>
  if a9 = true then
  (Kh7 (s0,a0,a1)) >>= fun b1 =>
  if b1 = true then
  (idx in1 a1) >>= fun b2 =>
  some ((!b2))
  else
  some (false)
  else
  some (false)
  else
  some (true)
  else
  some (true)
  else
  (idx in1 a1) >>= fun b3 =>
  if (a3 == b3) = true then
  (Kh4 (s0,a0,a1)) >>= fun a5 =>
  (idx in1 a5) >>= fun a6 =>
  (idx in1 a0) >>= fun a7 =>
  if a7 = true then
  (idx in1 a1) >>= fun a8 =>
  if (a6 == a8) = true then
  (idx in1 a0) >>= fun a9 =>
  if a9 = true then
  (Kh7 (s0,a0,a1)) >>= fun b1 =>
  if b1 = true then
  (idx in1 a1) >>= fun b2 =>
  some ((!b2))
  else
  some (false)
  else
  some (false)
  else
  some (true)
  else
  if (a6 == false) = true then
  (idx in1 a0) >>= fun a9 =>
  if a9 = true then
  (Kh7 (s0,a0,a1)) >>= fun b1 =>
  if b1 = true then
  (idx in1 a1) >>= fun b2 =>
  some ((!b2))
  else
  some (false)
  else
  some (false)
  else
  some (true)
  else
  some (true)
  ) : Option (Bool)) >>= fun b4 =>
  if b4 = true then
  some (.inr false)
  else
  Knn (s0,in1,a0,(wr (a1 + 1)))
  else
  some (.inl ())
 partial_fixpoint
def Kno (p : K00 × (List Bool) × Int × Int) (fl : (Unit) ⊕ (Bool)) : Prop :=
 match p with
 | (s0,in1,a0,a1) => ∀ c : Ctx,c.nt = 85 → WpL Tryz.prog c (cl (cl (cr (cl (cl (cr (cl (cl (cr (cl (cr (cr K7v)))))))))))) (Knl c s0 in1 a0 fl) (mkS [(1,sB in1),(2,.ra 1 0),(5,I a0),(6,I a1)] [(1,K1s s0)])
theorem Knp : ∀ p r,Knn p = some r → Kno p r := by
 refine Knn.partial_correctness Kno ?_
 rintro impl_isView_l0_f impl_isView_l0_ih ⟨s0,in1,a0,a1⟩ r h
 intro c hc
 refine WpL.step ?_
 refine sN ?_
 refine K8h hc 4 [(1,sB in1),(2,.ra 1 0),(5,I a0),(6,I a1),(25,.bool (decide (a1 < s0.fSize)))] ?_
 refine ic h (fun a2 h => ?_) fun a2 h => ?_
 ·refine sk ?_
  refine sN ?_
  refine bk 3 ?_
  refine sN ?_
  obtain ⟨a3,a4,h⟩ := Qct h
  refine Wp.into (x := .normal) (mkS [(1,sB in1),(2,.ra 1 0),(5,I a0),(6,I a1),(84,.bool a3)] [(1,K1s s0)]) ?_ ?_
  ·replace h := a4
   obtain ⟨a5,a6,a7,a8,a9,b1,h⟩ := bq3 h
   rcases is h with ⟨b2,h⟩ | ⟨b2,h⟩
   ·rcases is h with ⟨b3,h⟩ | ⟨b3,h⟩
    ·obtain ⟨b4,b5,b6,b7,b8,b9,h⟩ := bq3 h
     rcases is h with ⟨c0,h⟩ | ⟨c0,h⟩
     ·obtain ⟨c1,c2,h⟩ := Qct h
      rcases is h with ⟨c3,h⟩ | ⟨c3,h⟩
      ·obtain ⟨c4,c5,h⟩ := Qct h
       rcases is h with ⟨c6,h⟩ | ⟨c6,h⟩
       ·obtain ⟨c7,c8,h⟩ := Qct h
        rcases is h with ⟨c9,h⟩ | ⟨c9,h⟩
        ·obtain ⟨d0,d1,h⟩ := Qct h
         refine rgs hc Knm [oN,oN,oN,oN,oc (I a5),some (.el (.bool a7)),oN,oN,oN,some (.el (.bool a9)),oN,oN,o_,o_,o_,o_,oT,oN,oN,oN,oN,oN,oN,oc (I b4),some (.el (.bool b6)),oN,oN,oN,some (.el (.bool b8)),oN,oN,oN,oN,some (.el (.bool c1)),oN,oT,oN,oF,oN,oN,oN,some (.el (.bool c4)),oN,oN,oN,oN,oN,oc (.bool c7),oT,oN,oN,oN,some (.el (.bool d0)),oN,oN,oT,oF] [(1,sB in1),(2,.ra 1 0),(5,I a0),(6,I a1),(84,.bool (!d0))] (cq (Kh3 _ _ a6) K5p (ab (Qcx (enc := AV.bool) (x := .bool a7) a8 (Qda a7)) (Qcx (enc := AV.bool) (x := .bool a9) b1 (Qda a9)) (ar 4 (neF b2) (ai b2 (ar 5 (nF b3) (cq (Kh6 _ _ b5) K5r (ab (nF b3) (Qcx (enc := AV.bool) (x := .bool b6) b7 (Qda b6)) (ar 4 (nF b3) (ai (Qcx (enc := AV.bool) (x := .bool b8) b9 (Qda b8)) (ar 2 (nF b3) (ar 3 c0 (ad (Qcx (enc := AV.bool) (x := .bool c1) c2 (Qda c1)) c0 (nF b3) c0 (ar 2 (nF b3) (ar 3 (nF c3) (ai (Qcx (enc := AV.bool) (x := .bool c4) c5 (Qda c4)) (ar 2 (nF c3) (ar 4 c6 (cq (Kh9 _ _ c8) K5s (ac (nF c3) c6 (nF c3) (ar 3 c9 (ai (Qcx (enc := AV.bool) (x := .bool d0) d1 (Qda d0)) (ar 2 c9 (ac (nF c3) c9 (nF c3) tv))))))))))))))))))))))) ?_
         obtain rfl := os h
         exact Qcf.mk
        refine rgs hc Knm [oN,oN,oN,oN,oc (I a5),some (.el (.bool a7)),oN,oN,oN,some (.el (.bool a9)),oN,oN,o_,o_,o_,o_,oT,oN,oN,oN,oN,oN,oN,oc (I b4),some (.el (.bool b6)),oN,oN,oN,some (.el (.bool b8)),oN,oN,oN,oN,some (.el (.bool c1)),oN,oT,oN,oF,oN,oN,oN,some (.el (.bool c4)),oN,oN,oN,oN,oN,oc (.bool c7),oT,oN,o_,o_,o_,o_,o_,oF,oF] [(1,sB in1),(2,.ra 1 0),(5,I a0),(6,I a1),(84,.bool false)] (cq (Kh3 _ _ a6) K5p (ab (Qcx (enc := AV.bool) (x := .bool a7) a8 (Qda a7)) (Qcx (enc := AV.bool) (x := .bool a9) b1 (Qda a9)) (ar 4 (neF b2) (ai b2 (ar 5 (nF b3) (cq (Kh6 _ _ b5) K5r (ab (nF b3) (Qcx (enc := AV.bool) (x := .bool b6) b7 (Qda b6)) (ar 4 (nF b3) (ai (Qcx (enc := AV.bool) (x := .bool b8) b9 (Qda b8)) (ar 2 (nF b3) (ar 3 c0 (ad (Qcx (enc := AV.bool) (x := .bool c1) c2 (Qda c1)) c0 (nF b3) c0 (ar 2 (nF b3) (ar 3 (nF c3) (ai (Qcx (enc := AV.bool) (x := .bool c4) c5 (Qda c4)) (ar 2 (nF c3) (ar 4 c6 (cq (Kh9 _ _ c8) K5s (ac (nF c3) c6 (nF c3) (ar 5 (neT c9) (ac (nF c3) c9 (nF c3) tv))))))))))))))))))))) ?_
        obtain rfl := os h
        exact Qcf.mk
       refine rgs hc Knm [oN,oN,oN,oN,oc (I a5),some (.el (.bool a7)),oN,oN,oN,some (.el (.bool a9)),oN,oN,o_,o_,o_,o_,oT,oN,oN,oN,oN,oN,oN,oc (I b4),some (.el (.bool b6)),oN,oN,oN,some (.el (.bool b8)),oN,oN,oN,oN,some (.el (.bool c1)),oN,oT,oN,oF,oN,oN,oN,some (.el (.bool c4)),oN,oN,o_,o_,o_,o_,oF,oN,o_,o_,o_,o_,o_,oF,oF] [(1,sB in1),(2,.ra 1 0),(5,I a0),(6,I a1),(84,.bool false)] (cq (Kh3 _ _ a6) K5p (ab (Qcx (enc := AV.bool) (x := .bool a7) a8 (Qda a7)) (Qcx (enc := AV.bool) (x := .bool a9) b1 (Qda a9)) (ar 4 (neF b2) (ai b2 (ar 5 (nF b3) (cq (Kh6 _ _ b5) K5r (ab (nF b3) (Qcx (enc := AV.bool) (x := .bool b6) b7 (Qda b6)) (ar 4 (nF b3) (ai (Qcx (enc := AV.bool) (x := .bool b8) b9 (Qda b8)) (ar 2 (nF b3) (ar 3 c0 (ad (Qcx (enc := AV.bool) (x := .bool c1) c2 (Qda c1)) c0 (nF b3) c0 (ar 2 (nF b3) (ar 3 (nF c3) (ai (Qcx (enc := AV.bool) (x := .bool c4) c5 (Qda c4)) (ar 2 (nF c3) (ar 4 (neT c6) (ac (nF c3) c6 (nF c3) (ar 5 (neT (rfl : false = false)) (ac (nF c3) (rfl : false = false) (nF c3) tv)))))))))))))))))))) ?_
       obtain rfl := os h
       exact Qcf.mk
      refine rgs hc Knm [oN,oN,oN,oN,oc (I a5),some (.el (.bool a7)),oN,oN,oN,some (.el (.bool a9)),oN,oN,o_,o_,o_,o_,oT,oN,oN,oN,oN,oN,oN,oc (I b4),some (.el (.bool b6)),oN,oN,oN,some (.el (.bool b8)),oN,oN,oN,oN,some (.el (.bool c1)),oN,oT,oN,oF,oN,o_,o_,o_,o_,o_,o_,o_,o_,o_,o_,o_,o_,o_,o_,o_,o_,o_,oT] [(1,sB in1),(2,.ra 1 0),(5,I a0),(6,I a1),(84,.bool true)] (cq (Kh3 _ _ a6) K5p (ab (Qcx (enc := AV.bool) (x := .bool a7) a8 (Qda a7)) (Qcx (enc := AV.bool) (x := .bool a9) b1 (Qda a9)) (ar 4 (neF b2) (ai b2 (ar 5 (nF b3) (cq (Kh6 _ _ b5) K5r (ab (nF b3) (Qcx (enc := AV.bool) (x := .bool b6) b7 (Qda b6)) (ar 4 (nF b3) (ai (Qcx (enc := AV.bool) (x := .bool b8) b9 (Qda b8)) (ar 2 (nF b3) (ar 3 c0 (ad (Qcx (enc := AV.bool) (x := .bool c1) c2 (Qda c1)) c0 (nF b3) c0 (ar 2 (nF b3) (ar 8 (neF (nT c3)) (ai (nT c3) tv))))))))))))))) ?_
      obtain rfl := os h
      exact Qcf.mk
     rcases is h with ⟨c3,h⟩ | ⟨c3,h⟩
     ·obtain ⟨c4,c5,h⟩ := Qct h
      rcases is h with ⟨c6,h⟩ | ⟨c6,h⟩
      ·obtain ⟨c7,c8,h⟩ := Qct h
       rcases is h with ⟨c9,h⟩ | ⟨c9,h⟩
       ·obtain ⟨d0,d1,h⟩ := Qct h
        refine rgs hc Knm [oN,oN,oN,oN,oc (I a5),some (.el (.bool a7)),oN,oN,oN,some (.el (.bool a9)),oN,oN,o_,o_,o_,o_,oT,oN,oN,oN,oN,oN,oN,oc (I b4),some (.el (.bool b6)),oN,oN,oN,some (.el (.bool b8)),oN,oN,o_,o_,o_,o_,oF,oN,oF,oN,oN,oN,some (.el (.bool c4)),oN,oN,oN,oN,oN,oc (.bool c7),oT,oN,oN,oN,some (.el (.bool d0)),oN,oN,oT,oF] [(1,sB in1),(2,.ra 1 0),(5,I a0),(6,I a1),(84,.bool (!d0))] (cq (Kh3 _ _ a6) K5p (ab (Qcx (enc := AV.bool) (x := .bool a7) a8 (Qda a7)) (Qcx (enc := AV.bool) (x := .bool a9) b1 (Qda a9)) (ar 4 (neF b2) (ai b2 (ar 5 (nF b3) (cq (Kh6 _ _ b5) K5r (ab (nF b3) (Qcx (enc := AV.bool) (x := .bool b6) b7 (Qda b6)) (ar 4 (nF b3) (ai (Qcx (enc := AV.bool) (x := .bool b8) b9 (Qda b8)) (ar 2 (nF b3) (ar 4 (neT c0) (ab (nF b3) c0 (ar 2 (nF b3) (ar 3 (nF c3) (ai (Qcx (enc := AV.bool) (x := .bool c4) c5 (Qda c4)) (ar 2 (nF c3) (ar 4 c6 (cq (Kh9 _ _ c8) K5s (ac (nF c3) c6 (nF c3) (ar 3 c9 (ai (Qcx (enc := AV.bool) (x := .bool d0) d1 (Qda d0)) (ar 2 c9 (ac (nF c3) c9 (nF c3) tv))))))))))))))))))))))) ?_
        obtain rfl := os h
        exact Qcf.mk
       refine rgs hc Knm [oN,oN,oN,oN,oc (I a5),some (.el (.bool a7)),oN,oN,oN,some (.el (.bool a9)),oN,oN,o_,o_,o_,o_,oT,oN,oN,oN,oN,oN,oN,oc (I b4),some (.el (.bool b6)),oN,oN,oN,some (.el (.bool b8)),oN,oN,o_,o_,o_,o_,oF,oN,oF,oN,oN,oN,some (.el (.bool c4)),oN,oN,oN,oN,oN,oc (.bool c7),oT,oN,o_,o_,o_,o_,o_,oF,oF] [(1,sB in1),(2,.ra 1 0),(5,I a0),(6,I a1),(84,.bool false)] (cq (Kh3 _ _ a6) K5p (ab (Qcx (enc := AV.bool) (x := .bool a7) a8 (Qda a7)) (Qcx (enc := AV.bool) (x := .bool a9) b1 (Qda a9)) (ar 4 (neF b2) (ai b2 (ar 5 (nF b3) (cq (Kh6 _ _ b5) K5r (ab (nF b3) (Qcx (enc := AV.bool) (x := .bool b6) b7 (Qda b6)) (ar 4 (nF b3) (ai (Qcx (enc := AV.bool) (x := .bool b8) b9 (Qda b8)) (ar 2 (nF b3) (ar 4 (neT c0) (ab (nF b3) c0 (ar 2 (nF b3) (ar 3 (nF c3) (ai (Qcx (enc := AV.bool) (x := .bool c4) c5 (Qda c4)) (ar 2 (nF c3) (ar 4 c6 (cq (Kh9 _ _ c8) K5s (ac (nF c3) c6 (nF c3) (ar 5 (neT c9) (ac (nF c3) c9 (nF c3) tv))))))))))))))))))))) ?_
       obtain rfl := os h
       exact Qcf.mk
      refine rgs hc Knm [oN,oN,oN,oN,oc (I a5),some (.el (.bool a7)),oN,oN,oN,some (.el (.bool a9)),oN,oN,o_,o_,o_,o_,oT,oN,oN,oN,oN,oN,oN,oc (I b4),some (.el (.bool b6)),oN,oN,oN,some (.el (.bool b8)),oN,oN,o_,o_,o_,o_,oF,oN,oF,oN,oN,oN,some (.el (.bool c4)),oN,oN,o_,o_,o_,o_,oF,oN,o_,o_,o_,o_,o_,oF,oF] [(1,sB in1),(2,.ra 1 0),(5,I a0),(6,I a1),(84,.bool false)] (cq (Kh3 _ _ a6) K5p (ab (Qcx (enc := AV.bool) (x := .bool a7) a8 (Qda a7)) (Qcx (enc := AV.bool) (x := .bool a9) b1 (Qda a9)) (ar 4 (neF b2) (ai b2 (ar 5 (nF b3) (cq (Kh6 _ _ b5) K5r (ab (nF b3) (Qcx (enc := AV.bool) (x := .bool b6) b7 (Qda b6)) (ar 4 (nF b3) (ai (Qcx (enc := AV.bool) (x := .bool b8) b9 (Qda b8)) (ar 2 (nF b3) (ar 4 (neT c0) (ab (nF b3) c0 (ar 2 (nF b3) (ar 3 (nF c3) (ai (Qcx (enc := AV.bool) (x := .bool c4) c5 (Qda c4)) (ar 2 (nF c3) (ar 4 (neT c6) (ac (nF c3) c6 (nF c3) (ar 5 (neT (rfl : false = false)) (ac (nF c3) (rfl : false = false) (nF c3) tv)))))))))))))))))))) ?_
      obtain rfl := os h
      exact Qcf.mk
     refine rgs hc Knm [oN,oN,oN,oN,oc (I a5),some (.el (.bool a7)),oN,oN,oN,some (.el (.bool a9)),oN,oN,o_,o_,o_,o_,oT,oN,oN,oN,oN,oN,oN,oc (I b4),some (.el (.bool b6)),oN,oN,oN,some (.el (.bool b8)),oN,oN,o_,o_,o_,o_,oF,oN,oF,oN,o_,o_,o_,o_,o_,o_,o_,o_,o_,o_,o_,o_,o_,o_,o_,o_,o_,oT] [(1,sB in1),(2,.ra 1 0),(5,I a0),(6,I a1),(84,.bool true)] (cq (Kh3 _ _ a6) K5p (ab (Qcx (enc := AV.bool) (x := .bool a7) a8 (Qda a7)) (Qcx (enc := AV.bool) (x := .bool a9) b1 (Qda a9)) (ar 4 (neF b2) (ai b2 (ar 5 (nF b3) (cq (Kh6 _ _ b5) K5r (ab (nF b3) (Qcx (enc := AV.bool) (x := .bool b6) b7 (Qda b6)) (ar 4 (nF b3) (ai (Qcx (enc := AV.bool) (x := .bool b8) b9 (Qda b8)) (ar 2 (nF b3) (ar 4 (neT c0) (ab (nF b3) c0 (ar 2 (nF b3) (ar 8 (neF (nT c3)) (ai (nT c3) tv))))))))))))))) ?_
     obtain rfl := os h
     exact Qcf.mk
    refine rgs hc Knm [oN,oN,oN,oN,oc (I a5),some (.el (.bool a7)),oN,oN,oN,some (.el (.bool a9)),oN,oN,o_,o_,o_,o_,oT,oN,oN,o_,o_,o_,o_,o_,o_,o_,o_,o_,o_,o_,o_,o_,o_,o_,o_,o_,o_,oT,oN,o_,o_,o_,o_,o_,o_,o_,o_,o_,o_,o_,o_,o_,o_,o_,o_,o_,oT] [(1,sB in1),(2,.ra 1 0),(5,I a0),(6,I a1),(84,.bool true)] (cq (Kh3 _ _ a6) K5p (ab (Qcx (enc := AV.bool) (x := .bool a7) a8 (Qda a7)) (Qcx (enc := AV.bool) (x := .bool a9) b1 (Qda a9)) (ar 4 (neF b2) (ai b2 (ar 14 (neF (nT b3)) (ai (nT b3) (ar 8 nf (ai tt tv)))))))) ?_
    obtain rfl := os h
    exact Qcf.mk
   obtain ⟨d2,d3,h⟩ := Qct h
   rcases is h with ⟨b3,h⟩ | ⟨b3,h⟩
   ·obtain ⟨b4,b5,b6,b7,b8,b9,h⟩ := bq3 h
    rcases is h with ⟨c0,h⟩ | ⟨c0,h⟩
    ·obtain ⟨c1,c2,h⟩ := Qct h
     rcases is h with ⟨c3,h⟩ | ⟨c3,h⟩
     ·obtain ⟨c4,c5,h⟩ := Qct h
      rcases is h with ⟨c6,h⟩ | ⟨c6,h⟩
      ·obtain ⟨c7,c8,h⟩ := Qct h
       rcases is h with ⟨c9,h⟩ | ⟨c9,h⟩
       ·obtain ⟨d0,d1,h⟩ := Qct h
        refine rgs hc Knm [oN,oN,oN,oN,oc (I a5),some (.el (.bool a7)),oN,oN,oN,some (.el (.bool a9)),oN,oN,oN,oN,some (.el (.bool d2)),oN,oF,oN,oN,oN,oN,oN,oN,oc (I b4),some (.el (.bool b6)),oN,oN,oN,some (.el (.bool b8)),oN,oN,oN,oN,some (.el (.bool c1)),oN,oT,oN,oF,oN,oN,oN,some (.el (.bool c4)),oN,oN,oN,oN,oN,oc (.bool c7),oT,oN,oN,oN,some (.el (.bool d0)),oN,oN,oT,oF] [(1,sB in1),(2,.ra 1 0),(5,I a0),(6,I a1),(84,.bool (!d0))] (cq (Kh3 _ _ a6) K5p (ab (Qcx (enc := AV.bool) (x := .bool a7) a8 (Qda a7)) (Qcx (enc := AV.bool) (x := .bool a9) b1 (Qda a9)) (ar 3 b2 (ai (Qcx (enc := AV.bool) (x := .bool d2) d3 (Qda d2)) (ar 2 b2 (ar 5 (nF b3) (cq (Kh6 _ _ b5) K5r (ab (nF b3) (Qcx (enc := AV.bool) (x := .bool b6) b7 (Qda b6)) (ar 4 (nF b3) (ai (Qcx (enc := AV.bool) (x := .bool b8) b9 (Qda b8)) (ar 2 (nF b3) (ar 3 c0 (ad (Qcx (enc := AV.bool) (x := .bool c1) c2 (Qda c1)) c0 (nF b3) c0 (ar 2 (nF b3) (ar 3 (nF c3) (ai (Qcx (enc := AV.bool) (x := .bool c4) c5 (Qda c4)) (ar 2 (nF c3) (ar 4 c6 (cq (Kh9 _ _ c8) K5s (ac (nF c3) c6 (nF c3) (ar 3 c9 (ai (Qcx (enc := AV.bool) (x := .bool d0) d1 (Qda d0)) (ar 2 c9 (ac (nF c3) c9 (nF c3) tv)))))))))))))))))))))))) ?_
        obtain rfl := os h
        exact Qcf.mk
       refine rgs hc Knm [oN,oN,oN,oN,oc (I a5),some (.el (.bool a7)),oN,oN,oN,some (.el (.bool a9)),oN,oN,oN,oN,some (.el (.bool d2)),oN,oF,oN,oN,oN,oN,oN,oN,oc (I b4),some (.el (.bool b6)),oN,oN,oN,some (.el (.bool b8)),oN,oN,oN,oN,some (.el (.bool c1)),oN,oT,oN,oF,oN,oN,oN,some (.el (.bool c4)),oN,oN,oN,oN,oN,oc (.bool c7),oT,oN,o_,o_,o_,o_,o_,oF,oF] [(1,sB in1),(2,.ra 1 0),(5,I a0),(6,I a1),(84,.bool false)] (cq (Kh3 _ _ a6) K5p (ab (Qcx (enc := AV.bool) (x := .bool a7) a8 (Qda a7)) (Qcx (enc := AV.bool) (x := .bool a9) b1 (Qda a9)) (ar 3 b2 (ai (Qcx (enc := AV.bool) (x := .bool d2) d3 (Qda d2)) (ar 2 b2 (ar 5 (nF b3) (cq (Kh6 _ _ b5) K5r (ab (nF b3) (Qcx (enc := AV.bool) (x := .bool b6) b7 (Qda b6)) (ar 4 (nF b3) (ai (Qcx (enc := AV.bool) (x := .bool b8) b9 (Qda b8)) (ar 2 (nF b3) (ar 3 c0 (ad (Qcx (enc := AV.bool) (x := .bool c1) c2 (Qda c1)) c0 (nF b3) c0 (ar 2 (nF b3) (ar 3 (nF c3) (ai (Qcx (enc := AV.bool) (x := .bool c4) c5 (Qda c4)) (ar 2 (nF c3) (ar 4 c6 (cq (Kh9 _ _ c8) K5s (ac (nF c3) c6 (nF c3) (ar 5 (neT c9) (ac (nF c3) c9 (nF c3) tv)))))))))))))))))))))) ?_
       obtain rfl := os h
       exact Qcf.mk
      refine rgs hc Knm [oN,oN,oN,oN,oc (I a5),some (.el (.bool a7)),oN,oN,oN,some (.el (.bool a9)),oN,oN,oN,oN,some (.el (.bool d2)),oN,oF,oN,oN,oN,oN,oN,oN,oc (I b4),some (.el (.bool b6)),oN,oN,oN,some (.el (.bool b8)),oN,oN,oN,oN,some (.el (.bool c1)),oN,oT,oN,oF,oN,oN,oN,some (.el (.bool c4)),oN,oN,o_,o_,o_,o_,oF,oN,o_,o_,o_,o_,o_,oF,oF] [(1,sB in1),(2,.ra 1 0),(5,I a0),(6,I a1),(84,.bool false)] (cq (Kh3 _ _ a6) K5p (ab (Qcx (enc := AV.bool) (x := .bool a7) a8 (Qda a7)) (Qcx (enc := AV.bool) (x := .bool a9) b1 (Qda a9)) (ar 3 b2 (ai (Qcx (enc := AV.bool) (x := .bool d2) d3 (Qda d2)) (ar 2 b2 (ar 5 (nF b3) (cq (Kh6 _ _ b5) K5r (ab (nF b3) (Qcx (enc := AV.bool) (x := .bool b6) b7 (Qda b6)) (ar 4 (nF b3) (ai (Qcx (enc := AV.bool) (x := .bool b8) b9 (Qda b8)) (ar 2 (nF b3) (ar 3 c0 (ad (Qcx (enc := AV.bool) (x := .bool c1) c2 (Qda c1)) c0 (nF b3) c0 (ar 2 (nF b3) (ar 3 (nF c3) (ai (Qcx (enc := AV.bool) (x := .bool c4) c5 (Qda c4)) (ar 2 (nF c3) (ar 4 (neT c6) (ac (nF c3) c6 (nF c3) (ar 5 (neT (rfl : false = false)) (ac (nF c3) (rfl : false = false) (nF c3) tv))))))))))))))))))))) ?_
      obtain rfl := os h
      exact Qcf.mk
     refine rgs hc Knm [oN,oN,oN,oN,oc (I a5),some (.el (.bool a7)),oN,oN,oN,some (.el (.bool a9)),oN,oN,oN,oN,some (.el (.bool d2)),oN,oF,oN,oN,oN,oN,oN,oN,oc (I b4),some (.el (.bool b6)),oN,oN,oN,some (.el (.bool b8)),oN,oN,oN,oN,some (.el (.bool c1)),oN,oT,oN,oF,oN,o_,o_,o_,o_,o_,o_,o_,o_,o_,o_,o_,o_,o_,o_,o_,o_,o_,oT] [(1,sB in1),(2,.ra 1 0),(5,I a0),(6,I a1),(84,.bool true)] (cq (Kh3 _ _ a6) K5p (ab (Qcx (enc := AV.bool) (x := .bool a7) a8 (Qda a7)) (Qcx (enc := AV.bool) (x := .bool a9) b1 (Qda a9)) (ar 3 b2 (ai (Qcx (enc := AV.bool) (x := .bool d2) d3 (Qda d2)) (ar 2 b2 (ar 5 (nF b3) (cq (Kh6 _ _ b5) K5r (ab (nF b3) (Qcx (enc := AV.bool) (x := .bool b6) b7 (Qda b6)) (ar 4 (nF b3) (ai (Qcx (enc := AV.bool) (x := .bool b8) b9 (Qda b8)) (ar 2 (nF b3) (ar 3 c0 (ad (Qcx (enc := AV.bool) (x := .bool c1) c2 (Qda c1)) c0 (nF b3) c0 (ar 2 (nF b3) (ar 8 (neF (nT c3)) (ai (nT c3) tv)))))))))))))))) ?_
     obtain rfl := os h
     exact Qcf.mk
    rcases is h with ⟨c3,h⟩ | ⟨c3,h⟩
    ·obtain ⟨c4,c5,h⟩ := Qct h
     rcases is h with ⟨c6,h⟩ | ⟨c6,h⟩
     ·obtain ⟨c7,c8,h⟩ := Qct h
      rcases is h with ⟨c9,h⟩ | ⟨c9,h⟩
      ·obtain ⟨d0,d1,h⟩ := Qct h
       refine rgs hc Knm [oN,oN,oN,oN,oc (I a5),some (.el (.bool a7)),oN,oN,oN,some (.el (.bool a9)),oN,oN,oN,oN,some (.el (.bool d2)),oN,oF,oN,oN,oN,oN,oN,oN,oc (I b4),some (.el (.bool b6)),oN,oN,oN,some (.el (.bool b8)),oN,oN,o_,o_,o_,o_,oF,oN,oF,oN,oN,oN,some (.el (.bool c4)),oN,oN,oN,oN,oN,oc (.bool c7),oT,oN,oN,oN,some (.el (.bool d0)),oN,oN,oT,oF] [(1,sB in1),(2,.ra 1 0),(5,I a0),(6,I a1),(84,.bool (!d0))] (cq (Kh3 _ _ a6) K5p (ab (Qcx (enc := AV.bool) (x := .bool a7) a8 (Qda a7)) (Qcx (enc := AV.bool) (x := .bool a9) b1 (Qda a9)) (ar 3 b2 (ai (Qcx (enc := AV.bool) (x := .bool d2) d3 (Qda d2)) (ar 2 b2 (ar 5 (nF b3) (cq (Kh6 _ _ b5) K5r (ab (nF b3) (Qcx (enc := AV.bool) (x := .bool b6) b7 (Qda b6)) (ar 4 (nF b3) (ai (Qcx (enc := AV.bool) (x := .bool b8) b9 (Qda b8)) (ar 2 (nF b3) (ar 4 (neT c0) (ab (nF b3) c0 (ar 2 (nF b3) (ar 3 (nF c3) (ai (Qcx (enc := AV.bool) (x := .bool c4) c5 (Qda c4)) (ar 2 (nF c3) (ar 4 c6 (cq (Kh9 _ _ c8) K5s (ac (nF c3) c6 (nF c3) (ar 3 c9 (ai (Qcx (enc := AV.bool) (x := .bool d0) d1 (Qda d0)) (ar 2 c9 (ac (nF c3) c9 (nF c3) tv)))))))))))))))))))))))) ?_
       obtain rfl := os h
       exact Qcf.mk
      refine rgs hc Knm [oN,oN,oN,oN,oc (I a5),some (.el (.bool a7)),oN,oN,oN,some (.el (.bool a9)),oN,oN,oN,oN,some (.el (.bool d2)),oN,oF,oN,oN,oN,oN,oN,oN,oc (I b4),some (.el (.bool b6)),oN,oN,oN,some (.el (.bool b8)),oN,oN,o_,o_,o_,o_,oF,oN,oF,oN,oN,oN,some (.el (.bool c4)),oN,oN,oN,oN,oN,oc (.bool c7),oT,oN,o_,o_,o_,o_,o_,oF,oF] [(1,sB in1),(2,.ra 1 0),(5,I a0),(6,I a1),(84,.bool false)] (cq (Kh3 _ _ a6) K5p (ab (Qcx (enc := AV.bool) (x := .bool a7) a8 (Qda a7)) (Qcx (enc := AV.bool) (x := .bool a9) b1 (Qda a9)) (ar 3 b2 (ai (Qcx (enc := AV.bool) (x := .bool d2) d3 (Qda d2)) (ar 2 b2 (ar 5 (nF b3) (cq (Kh6 _ _ b5) K5r (ab (nF b3) (Qcx (enc := AV.bool) (x := .bool b6) b7 (Qda b6)) (ar 4 (nF b3) (ai (Qcx (enc := AV.bool) (x := .bool b8) b9 (Qda b8)) (ar 2 (nF b3) (ar 4 (neT c0) (ab (nF b3) c0 (ar 2 (nF b3) (ar 3 (nF c3) (ai (Qcx (enc := AV.bool) (x := .bool c4) c5 (Qda c4)) (ar 2 (nF c3) (ar 4 c6 (cq (Kh9 _ _ c8) K5s (ac (nF c3) c6 (nF c3) (ar 5 (neT c9) (ac (nF c3) c9 (nF c3) tv)))))))))))))))))))))) ?_
      obtain rfl := os h
      exact Qcf.mk
     refine rgs hc Knm [oN,oN,oN,oN,oc (I a5),some (.el (.bool a7)),oN,oN,oN,some (.el (.bool a9)),oN,oN,oN,oN,some (.el (.bool d2)),oN,oF,oN,oN,oN,oN,oN,oN,oc (I b4),some (.el (.bool b6)),oN,oN,oN,some (.el (.bool b8)),oN,oN,o_,o_,o_,o_,oF,oN,oF,oN,oN,oN,some (.el (.bool c4)),oN,oN,o_,o_,o_,o_,oF,oN,o_,o_,o_,o_,o_,oF,oF] [(1,sB in1),(2,.ra 1 0),(5,I a0),(6,I a1),(84,.bool false)] (cq (Kh3 _ _ a6) K5p (ab (Qcx (enc := AV.bool) (x := .bool a7) a8 (Qda a7)) (Qcx (enc := AV.bool) (x := .bool a9) b1 (Qda a9)) (ar 3 b2 (ai (Qcx (enc := AV.bool) (x := .bool d2) d3 (Qda d2)) (ar 2 b2 (ar 5 (nF b3) (cq (Kh6 _ _ b5) K5r (ab (nF b3) (Qcx (enc := AV.bool) (x := .bool b6) b7 (Qda b6)) (ar 4 (nF b3) (ai (Qcx (enc := AV.bool) (x := .bool b8) b9 (Qda b8)) (ar 2 (nF b3) (ar 4 (neT c0) (ab (nF b3) c0 (ar 2 (nF b3) (ar 3 (nF c3) (ai (Qcx (enc := AV.bool) (x := .bool c4) c5 (Qda c4)) (ar 2 (nF c3) (ar 4 (neT c6) (ac (nF c3) c6 (nF c3) (ar 5 (neT (rfl : false = false)) (ac (nF c3) (rfl : false = false) (nF c3) tv))))))))))))))))))))) ?_
     obtain rfl := os h
     exact Qcf.mk
    refine rgs hc Knm [oN,oN,oN,oN,oc (I a5),some (.el (.bool a7)),oN,oN,oN,some (.el (.bool a9)),oN,oN,oN,oN,some (.el (.bool d2)),oN,oF,oN,oN,oN,oN,oN,oN,oc (I b4),some (.el (.bool b6)),oN,oN,oN,some (.el (.bool b8)),oN,oN,o_,o_,o_,o_,oF,oN,oF,oN,o_,o_,o_,o_,o_,o_,o_,o_,o_,o_,o_,o_,o_,o_,o_,o_,o_,oT] [(1,sB in1),(2,.ra 1 0),(5,I a0),(6,I a1),(84,.bool true)] (cq (Kh3 _ _ a6) K5p (ab (Qcx (enc := AV.bool) (x := .bool a7) a8 (Qda a7)) (Qcx (enc := AV.bool) (x := .bool a9) b1 (Qda a9)) (ar 3 b2 (ai (Qcx (enc := AV.bool) (x := .bool d2) d3 (Qda d2)) (ar 2 b2 (ar 5 (nF b3) (cq (Kh6 _ _ b5) K5r (ab (nF b3) (Qcx (enc := AV.bool) (x := .bool b6) b7 (Qda b6)) (ar 4 (nF b3) (ai (Qcx (enc := AV.bool) (x := .bool b8) b9 (Qda b8)) (ar 2 (nF b3) (ar 4 (neT c0) (ab (nF b3) c0 (ar 2 (nF b3) (ar 8 (neF (nT c3)) (ai (nT c3) tv)))))))))))))))) ?_
    obtain rfl := os h
    exact Qcf.mk
   refine rgs hc Knm [oN,oN,oN,oN,oc (I a5),some (.el (.bool a7)),oN,oN,oN,some (.el (.bool a9)),oN,oN,oN,oN,some (.el (.bool d2)),oN,oF,oN,oN,o_,o_,o_,o_,o_,o_,o_,o_,o_,o_,o_,o_,o_,o_,o_,o_,o_,o_,oT,oN,o_,o_,o_,o_,o_,o_,o_,o_,o_,o_,o_,o_,o_,o_,o_,o_,o_,oT] [(1,sB in1),(2,.ra 1 0),(5,I a0),(6,I a1),(84,.bool true)] (cq (Kh3 _ _ a6) K5p (ab (Qcx (enc := AV.bool) (x := .bool a7) a8 (Qda a7)) (Qcx (enc := AV.bool) (x := .bool a9) b1 (Qda a9)) (ar 3 b2 (ai (Qcx (enc := AV.bool) (x := .bool d2) d3 (Qda d2)) (ar 2 b2 (ar 14 (neF (nT b3)) (ai (nT b3) (ar 8 nf (ai tt tv))))))))) ?_
   obtain rfl := os h
   exact Qcf.mk
  clear a4
  refine ic h (fun d4 h => ?_) fun d4 h => ?_
  ·refine rs0 hc 1 [(4,.bool false)] [] ?_
   refine rt ?_
   obtain rfl := os h
   exact re [true]
  refine sk ?_
  refine K8g hc 3 [(1,sB in1),(2,.ra 1 0),(5,I a0),(6,I (wr (a1 + 1)))] ?_
  refine Qcb ?_
  exact (impl_isView_l0_ih _ _ h c hc)
 refine xt 2 ?_
 refine Qc5 ?_
 refine Qcc ?_
 obtain rfl := os h
 exact iv []
def Knq : Option (List (List Nat)) := rx [[0],[0],[2],[3],[0],[0],[0,4,5],[0,4,5,6],[8]]
def Knr : Option (List (List Nat)) := rx [[0],[0],[2],[3],[0],[0],[0,4,5],[0,4,5,6],[8],[9]]
def Kns (c : Ctx) : (Unit) ⊕ (Bool) → Exit → Q0a → Prop
 | .inl _ => Qcf c (.exit 0) (mkS [] [])
 | .inr r => Qco TIx Tryz.f159 [] (.bool r)
def Knt (p : K00 × (List Bool) × Int) : Option ((Unit) ⊕ (Bool)) :=
 match p with
 | (s0,in1,a0) =>
  if (decide (a0 < s0.fSize)) = true then
  (Knn (s0,in1,a0,0)) >>= fun fl => match fl with
  | .inl () =>
   Knt (s0,in1,(wr (a0 + 1)))
  | .inr r =>
   some (.inr r)
  else
  some (.inl ())
 partial_fixpoint
def Knu (p : K00 × (List Bool) × Int) (fl : (Unit) ⊕ (Bool)) : Prop :=
 match p with
 | (s0,in1,a0) => ∀ c : Ctx,c.nt = 85 → WpL Tryz.prog c (cl (cl (cr (cl (cr (cr K7v)))))) (Kns c fl) (mkS [(1,sB in1),(2,.ra 1 0),(5,I a0)] [(1,K1s s0)])
theorem Knv : ∀ p r,Knt p = some r → Knu p r := by
 refine Knt.partial_correctness Knu ?_
 rintro impl_isView_l1_f impl_isView_l1_ih ⟨s0,in1,a0⟩ r h
 intro c hc
 refine WpL.step ?_
 refine sN ?_
 refine K8h hc 4 [(1,sB in1),(2,.ra 1 0),(5,I a0),(19,.bool (decide (a0 < s0.fSize)))] ?_
 refine ic h (fun a1 h => ?_) fun a1 h => ?_
 ·refine sk ?_
  refine sN ?_
  refine bk 1 ?_
  refine K8h hc 1 [(1,sB in1),(2,.ra 1 0),(5,I a0),(6,I 0)] ?_
  refine bk 2 ?_
  obtain ⟨fl,a2,h⟩ := Qct h
  have hL := Knp _ _ a2 c hc
  refine lp ?_
  rcases fl with ⟨⟩ | r
  ·refine WpL.into (e := (.exit 2)) (mkS [(1,sB in1),(2,.ra 1 0),(5,I a0)] [(1,K1s s0)]) hL ?_
   refine Qc7 ?_
   refine K8g hc 3 [(1,sB in1),(2,.ra 1 0),(5,I (wr (a0 + 1)))] ?_
   refine Qcb ?_
   exact (impl_isView_l1_ih _ _ h c hc)
  refine WpL.mono hL ?_
  rintro _ _ ⟨rfl,hfin⟩
  obtain rfl := os h
  exact ⟨rfl,hfin⟩
 refine xt 0 ?_
 refine Qc5 ?_
 refine Qcc ?_
 obtain rfl := os h
 exact iv []
def Knw (p : K00 × (List Bool)) : Option (Bool) :=
 match p with
 | (s0,in1) =>
  ((
  (idx in1 1) >>= fun a0 =>
  if a0 = true then
   (idx in1 0) >>= fun a1 =>
   some (a1)
  else
   some (true)
  ) : Option (Bool)) >>= fun a2 =>
  if a2 = true then
  some false
  else
  (Knt (s0,in1,0)) >>= fun fl => match fl with
  | .inl () =>
   some true
  | .inr r =>
   some r
def Knx (p : K00 × (List Bool)) (r : Bool) : Prop :=
 match p with
 | (s0,in1) => Q71 Tryz.prog 159 [K1t s0,sB in1] (.bool r) []
theorem Kny : ∀ p r,Knw p = some r → Knx p r := by
 rintro ⟨s0,in1⟩ r h
 unfold Knw at h
 refine b0 Tryz.f159 K7v 85 [(0,K1t s0),(1,sB in1)] fun c hc => ?_
 refine rs hc none [some (.new 1),oN] [(1,sB in1),(2,.ra 1 0)] [(1,K1s s0)] tv ?_
 refine sN ?_
 refine sN ?_
 obtain ⟨a0,a1,h⟩ := Qct h
 refine Wp.into (x := .normal) (mkS [(1,sB in1),(2,.ra 1 0),(15,.bool a0)] [(1,K1s s0)]) ?_ ?_
 ·replace h := a1
  obtain ⟨a2,a3,h⟩ := Qct h
  rcases is h with ⟨a4,h⟩ | ⟨a4,h⟩
  ·obtain ⟨a5,a6,h⟩ := Qct h
   refine rgs hc none [oN,some (.el (.bool a2)),oN,oN,oN,oN,some (.el (.bool a5)),oN,oF] [(1,sB in1),(2,.ra 1 0),(15,.bool a5)] (ai (Qcx (enc := AV.bool) (x := .bool a2) a3 (Qda a2)) (ar 2 (nF a4) (ai (Qcx (enc := AV.bool) (x := .bool a5) a6 (Qda a5)) (ar 2 (nF a4) tv)))) ?_
   obtain rfl := os h
   exact Qcf.mk
  refine rgs hc none [oN,some (.el (.bool a2)),oN,oN,oN,o_,o_,o_,oT] [(1,sB in1),(2,.ra 1 0),(15,.bool true)] (ai (Qcx (enc := AV.bool) (x := .bool a2) a3 (Qda a2)) (ar 3 (neF (nT a4)) (ai (nT a4) tv))) ?_
  obtain rfl := os h
  exact Qcf.mk
 clear a1
 refine ic h (fun a7 h => ?_) fun a7 h => ?_
 ·refine rs0 hc 1 [(4,.bool false)] [] ?_
  refine rt ?_
  obtain rfl := os h
  exact rq [true]
 refine sk ?_
 refine sN ?_
 refine K8h hc 1 [(1,sB in1),(2,.ra 1 0),(5,I 0)] ?_
 refine bk 0 ?_
 obtain ⟨fl,a8,h⟩ := Qct h
 have hL := Knv _ _ a8 c hc
 refine lp ?_
 rcases fl with ⟨⟩ | r
 ·refine WpL.into (e := (.exit 0)) (mkS [] []) hL ?_
  refine Qc7 ?_
  refine rs0 hc 1 [(4,.bool true)] [] ?_
  refine rt ?_
  obtain rfl := os h
  exact rq [true]
 refine WpL.mono hL ?_
 rintro _ _ ⟨rfl,hfin⟩
 obtain rfl := os h
 exact ⟨.inl rfl,hfin⟩
def Knz (c : Ctx) (s0 : K00) : ((List Bool)) ⊕ (Bool) → Exit → Q0a → Prop
 | .inl a0 => Qcf c (.exit 0) (mkS [(2,.ra 1 0),(5,.rs 2)] [(1,K1s s0),(2,.arr (List.map AV.bool a0))])
 | .inr r => Qco TIx Tryz.f91 [] (.bool r)
def Ko0 (p : K00 × (List Int) × (List Bool) × Int) : Option (((List Bool)) ⊕ (Bool)) :=
 match p with
 | (s0,v1,a0,a1) =>
  if (decide (a1 < (v1.length : Int))) = true then
  (idx v1 a1) >>= fun a2 =>
  ((
  (Kgy (s0,a2)) >>= fun a3 =>
  if a3 = true then
  if (decide (a1 > 0)) = true then
  (idx v1 (wr (a1 - 1))) >>= fun a4 =>
  some ((decide (a2 ≤ a4)))
  else
  some (false)
  else
  some (true)
  ) : Option (Bool)) >>= fun a5 =>
  if a5 = true then
  some (.inr false)
  else
  (idx a0 a2) >>= fun a6 =>
  Ko0 (s0,v1,(List.set a0 (Int.toNat a2) true),(wr (a1 + 1)))
  else
  some (.inl a0)
 partial_fixpoint
def Ko1 (p : K00 × (List Int) × (List Bool) × Int) (fl : ((List Bool)) ⊕ (Bool)) : Prop :=
 match p with
 | (s0,v1,a0,a1) => ∀ c : Ctx,c.nt = 45 → WpL Tryz.prog c (cl (cl (cr (cl (cr (cr (cr B91))))))) (Knz c s0 fl) (mkS [(1,sI v1),(2,.ra 1 0),(5,.rs 2),(14,sI v1),(15,I (v1.length : Int)),(16,I a1)] [(1,K1s s0),(2,.arr (List.map AV.bool a0))])
theorem Ko2 : ∀ p r,Ko0 p = some r → Ko1 p r := by
 refine Ko0.partial_correctness Ko1 ?_
 rintro impl_IsView_l0_f impl_IsView_l0_ih ⟨s0,v1,a0,a1⟩ r h
 intro c hc
 refine WpL.step ?_
 refine K8h hc 1 [(1,sI v1),(2,.ra 1 0),(5,.rs 2),(14,sI v1),(15,I (v1.length : Int)),(16,I a1),(17,.bool (decide (a1 < (v1.length : Int))))] ?_
 refine sN ?_
 refine ic h (fun a2 h => ?_) fun a2 h => ?_
 ·refine sk ?_
  refine sN ?_
  refine bk 1 ?_
  obtain ⟨a3,a4,h⟩ := Qct h
  refine rss hc none [oN,some (.el (I a3)),oN,oN,oN] [(1,sI v1),(2,.ra 1 0),(5,.rs 2),(6,I a1),(7,I a3),(14,sI v1),(15,I (v1.length : Int)),(16,I a1)] (ai (ix a4) tv) ?_
  refine sN ?_
  refine sN ?_
  obtain ⟨a5,a6,h⟩ := Qct h
  refine Wp.into (x := .normal) (mkS [(1,sI v1),(2,.ra 1 0),(5,.rs 2),(7,I a3),(14,sI v1),(15,I (v1.length : Int)),(16,I a1),(37,.bool a5)] [(1,K1s s0),(2,.arr (List.map AV.bool a0))]) ?_ ?_
  ·replace h := a6
   obtain ⟨a7,a8,h⟩ := Qct h
   rcases is h with ⟨a9,h⟩ | ⟨a9,h⟩
   ·rcases is h with ⟨b1,h⟩ | ⟨b1,h⟩
    ·obtain ⟨b2,b3,h⟩ := Qct h
     refine rgs hc none [oN,oN,oc (.bool a7),oN,oN,oN,oN,oN,oN,oN,oN,oN,some (.el (I b2)),oN,oN,oT,oF] [(1,sI v1),(2,.ra 1 0),(5,.rs 2),(7,I a3),(14,sI v1),(15,I (v1.length : Int)),(16,I a1),(37,.bool (decide (a3 ≤ b2)))] (cq (Kh0 _ _ a8) K5n (ar 3 (nF a9) (ar 5 b1 (ai (ix b3) (ar 2 b1 (ac (nF a9) b1 (nF a9) tv)))))) ?_
     obtain rfl := os h
     exact Qcf.mk
    refine rgs hc none [oN,oN,oc (.bool a7),oN,oN,oN,oN,oN,o_,o_,o_,o_,o_,o_,o_,oF,oF] [(1,sI v1),(2,.ra 1 0),(5,.rs 2),(7,I a3),(14,sI v1),(15,I (v1.length : Int)),(16,I a1),(37,.bool false)] (cq (Kh0 _ _ a8) K5n (ar 3 (nF a9) (ar 7 (neT b1) (ac (nF a9) b1 (nF a9) tv)))) ?_
    obtain rfl := os h
    exact Qcf.mk
   refine rgs hc none [oN,oN,oc (.bool a7),oN,oN,o_,o_,o_,o_,o_,o_,o_,o_,o_,o_,o_,oT] [(1,sI v1),(2,.ra 1 0),(5,.rs 2),(7,I a3),(14,sI v1),(15,I (v1.length : Int)),(16,I a1),(37,.bool true)] (cq (Kh0 _ _ a8) K5n (ar 4 (neF (nT a9)) (ai (nT a9) tv))) ?_
   obtain rfl := os h
   exact Qcf.mk
  clear a6
  refine ic h (fun b4 h => ?_) fun b4 h => ?_
  ·refine rs0 hc 1 [(4,.bool false)] [] ?_
   refine rt ?_
   obtain rfl := os h
   exact re [true]
  refine sk ?_
  obtain ⟨b5,b6,h⟩ := Qct h
  refine rg hc none [oN,oN,oN,some (.eqv (.mk 0 true) ⟨[],[(2,some (.arr (List.map AV.bool (List.set a0 (Int.toNat a3) true))))],[]⟩)] [(1,sI v1),(2,.ra 1 0),(5,.rs 2),(14,sI v1),(15,I (v1.length : Int)),(16,I a1)] [(1,K1s s0),(2,.arr (List.map AV.bool (List.set a0 (Int.toNat a3) true)))] (ac (Qcy (enc := AV.bool) b6) (congrArg (fun z => (⟨[],[(2,some (.arr z))],[]⟩ : Wr)) (Qdw (enc := AV.bool) (i := Int.toNat a3) (l := a0) (v := true) (x := AV.bool true) (Qda true))) (Qdx (enc := AV.bool) (sz := 1) Qde b6) tv) ?_
  refine K8g hc 2 [(1,sI v1),(2,.ra 1 0),(5,.rs 2),(14,sI v1),(15,I (v1.length : Int)),(16,I (wr (a1 + 1)))] ?_
  refine Qcb ?_
  exact (impl_IsView_l0_ih _ _ h c hc)
 refine xt 0 ?_
 refine Qc5 ?_
 refine Qcc ?_
 obtain rfl := os h
 exact iv []
def Ko3 (p : K00 × (List Int)) : Option (Bool) :=
 match p with
 | (s0,v1) =>
  (Kia s0) >>= fun a0 =>
  if a0 = true then
  (chk (0 ≤ s0.fSize ∧ (Int.toNat s0.fSize) * 1 ≤ 140737488355328)) >>= fun _ =>
  (Ko0 (s0,v1,(List.replicate (Int.toNat s0.fSize) false),0)) >>= fun fl => match fl with
  | .inl a1 =>
   (Knw (s0,a1)) >>= fun a2 =>
   some a2
  | .inr r =>
   some r
  else
  some false
def Ko4 (p : K00 × (List Int)) (r : Bool) : Prop :=
 match p with
 | (s0,v1) => Q71 Tryz.prog 91 [K1t s0,sI v1] (.bool r) []
theorem Ko5 : ∀ p r,Ko3 p = some r → Ko4 p r := by
 rintro ⟨s0,v1⟩ r h
 unfold Ko3 at h
 refine b0 Tryz.f91 B91 45 [(0,K1t s0),(1,sI v1)] fun c hc => ?_
 refine rs hc none [some (.new 1),oN] [(1,sI v1),(2,.ra 1 0)] [(1,K1s s0)] tv ?_
 refine sN ?_
 obtain ⟨a0,a1,h⟩ := Qct h
 refine rss hc none [oN,oc (.bool a0),oN] [(1,sI v1),(2,.ra 1 0),(10,.bool (!a0))] (cq (Kic _ _ a1) K5y tv) ?_
 rcases is h with ⟨a2,h⟩ | ⟨a2,h⟩
 ·refine cF (!a0) (nF a2) ?_
  refine sk ?_
  obtain ⟨_,a3,h⟩ := Qct h
  refine rs hc none [oN,oN,some (.eqv (.mk 2 true) ⟨[(13,.rs 2)],[(2,some (.arr (List.map AV.bool (List.replicate (Int.toNat s0.fSize) false))))],[2]⟩),oN] [(1,sI v1),(2,.ra 1 0),(5,.rs 2)] [(1,K1s s0),(2,.arr (List.map AV.bool (List.replicate (Int.toNat s0.fSize) false)))] (ab (congrArg (fun z => (⟨[(13,.rs 2)],[(2,some (.arr z))],[2]⟩ : Wr)) (Qdy (enc := AV.bool) (n := Int.toNat s0.fSize) (x := AV.bool false) (Qda false))) (And.intro (Eq.refl s0.fSize) (Qcv a3)) tv) ?_
  refine sN ?_
  refine rss hc none [oN,some (.eqv (.no) ⟨[(15,I (v1.length : Int))],[],[]⟩),oN] [(1,sI v1),(2,.ra 1 0),(5,.rs 2),(14,sI v1),(15,I (v1.length : Int)),(16,I 0)] (ai (Qcz (d := 15) I v1) tv) ?_
  refine bk 0 ?_
  obtain ⟨fl,a4,h⟩ := Qct h
  have hL := Ko2 _ _ a4 c hc
  refine lp ?_
  rcases fl with a5 | r
  ·refine WpL.into (e := (.exit 0)) (mkS [(2,.ra 1 0),(5,.rs 2)] [(1,K1s s0),(2,.arr (List.map AV.bool a5))]) hL ?_
   refine Qc7 ?_
   obtain ⟨a6,a7,h⟩ := Qct h
   refine rs hc none [oN,oN,oc (.bool a6),oN] [(4,.bool a6)] [] (ac (Q71.args (A1 := [K1t s0,.sl (Q02 (List.map AV.bool a5))]) (A2 := [K1t s0,sB a5]) (by simp only [List.map_nil,Qdn]) (Kny _ _ a7)) K7w (Or.inr rfl : ([2] : List Nat) = [] ∨ noSh (.bool a6) = true) tv) ?_
   refine rt ?_
   obtain rfl := os h
   exact rq [true]
  refine WpL.mono hL ?_
  rintro _ _ ⟨rfl,hfin⟩
  obtain rfl := os h
  exact ⟨.inl rfl,hfin⟩
 refine cT (!a0) (nT a2) ?_
 refine rs0 hc 1 [(4,.bool false)] [] ?_
 refine rt ?_
 obtain rfl := os h
 exact rq [true]
def Ko6 (c : Ctx) : (Unit) ⊕ (Int) → Exit → Q0a → Prop
 | .inl _ => Qcf c (.exit 0) (mkS [] [])
 | .inr r => Qco TIx Tryz.f160 [] (I r)
def Ko7 (p : (List Int) × Int × Int) : Option ((Unit) ⊕ (Int)) :=
 match p with
 | (s0,v1,a0) =>
  if (decide (a0 < (s0.length : Int))) = true then
  (idx s0 a0) >>= fun a1 =>
  if (v1 == a1) = true then
  some (.inr a0)
  else
  Ko7 (s0,v1,(wr (a0 + 1)))
  else
  some (.inl ())
 partial_fixpoint
def Ko8 (p : (List Int) × Int × Int) (fl : (Unit) ⊕ (Int)) : Prop :=
 match p with
 | (s0,v1,a0) => ∀ c : Ctx,c.nt = 19 → WpL Tryz.prog c (cl (cl (cr (cl (cr K7y))))) (Ko6 c fl) (mkS [(0,sI s0),(1,I v1),(7,I (s0.length : Int)),(8,I a0)] [])
theorem Ko9 : ∀ p r,Ko7 p = some r → Ko8 p r := by
 refine Ko7.partial_correctness Ko8 ?_
 rintro slices_Index_int_l0_f slices_Index_int_l0_ih ⟨s0,v1,a0⟩ r h
 intro c hc
 refine WpL.step ?_
 refine rs0 hc 1 [(0,sI s0),(1,I v1),(7,I (s0.length : Int)),(8,I a0),(9,.bool (decide (a0 < (s0.length : Int))))] [] ?_
 refine sN ?_
 refine ic h (fun a1 h => ?_) fun a1 h => ?_
 ·refine sk ?_
  refine sN ?_
  refine bk 1 ?_
  refine rs0 hc 2 [(0,sI s0),(1,I v1),(5,I a0),(7,I (s0.length : Int)),(8,I a0)] [] ?_
  obtain ⟨a2,a3,h⟩ := Qct h
  refine rs hc none [oN,oN,oN,some (.el (I a2)),oN,oN] [(0,sI s0),(1,I v1),(5,I a0),(7,I (s0.length : Int)),(8,I a0),(16,.bool (v1 == a2))] [] (ai (ix a3) tv) ?_
  refine ic h (fun a4 h => ?_) fun a4 h => ?_
  ·refine rs0 hc 2 [(4,I a0)] [] ?_
   refine rt ?_
   obtain rfl := os h
   exact re [true]
  refine sk ?_
  refine rg0 hc 2 [(0,sI s0),(1,I v1),(7,I (s0.length : Int)),(8,I (wr (a0 + 1)))] [] ?_
  refine Qcb ?_
  exact (slices_Index_int_l0_ih _ _ h c hc)
 refine xt 0 ?_
 refine Qc5 ?_
 refine Qcc ?_
 obtain rfl := os h
 exact iv []
def Koa (p : (List Int) × Int) : Option (Int) :=
 match p with
 | (s0,v1) =>
  (Ko7 (s0,v1,0)) >>= fun fl => match fl with
  | .inl () =>
   some (-1)
  | .inr r =>
   some r
def Kob (p : (List Int) × Int) (r : Int) : Prop :=
 match p with
 | (s0,v1) => Q71 Tryz.prog 160 [sI s0,I v1] (I r) []
theorem Koc : ∀ p r,Koa p = some r → Kob p r := by
 rintro ⟨s0,v1⟩ r h
 unfold Koa at h
 refine b0 Tryz.f160 K7y 19 [(0,sI s0),(1,I v1)] fun c hc => ?_
 refine rs0 hc 1 [(0,sI s0),(1,I v1)] [] ?_
 refine sN ?_
 refine rs hc none [oN,some (.eqv (.no) ⟨[(7,I (s0.length : Int))],[],[]⟩),oN] [(0,sI s0),(1,I v1),(7,I (s0.length : Int)),(8,I 0)] [] (ai (Qcz (d := 7) I s0) tv) ?_
 refine bk 0 ?_
 obtain ⟨fl,a0,h⟩ := Qct h
 have hL := Ko9 _ _ a0 c hc
 refine lp ?_
 rcases fl with ⟨⟩ | r
 ·refine WpL.into (e := (.exit 0)) (mkS [] []) hL ?_
  refine Qc7 ?_
  refine rs0 hc 1 [(4,I (-1))] [] ?_
  refine rt ?_
  obtain rfl := os h
  exact rq [true]
 refine WpL.mono hL ?_
 rintro _ _ ⟨rfl,hfin⟩
 obtain rfl := os h
 exact ⟨.inl rfl,hfin⟩
def Kod (p : (List Int) × Int) : Option (Bool) :=
 match p with
 | (s0,v1) =>
  (Koa (s0,v1)) >>= fun a0 =>
  some (decide (a0 ≥ 0))
def Koe (p : (List Int) × Int) (r : Bool) : Prop :=
 match p with
 | (s0,v1) => Q71 Tryz.prog 92 [sI s0,I v1] (.bool r) []
theorem Kof : ∀ p r,Kod p = some r → Koe p r := by
 rintro ⟨s0,v1⟩ r h
 unfold Kod at h
 refine b0 Tryz.f92 B92 9 [(0,sI s0),(1,I v1)] fun c hc => ?_
 refine rs0 hc 1 [(0,sI s0),(1,I v1)] [] ?_
 obtain ⟨a0,a1,h⟩ := Qct h
 refine rs hc none [oN,oN,oc (I a0),oN,oN] [(4,.bool (decide (a0 ≥ 0)))] [] (cq (Koc _ _ a1) K7z tv) ?_
 refine rt ?_
 obtain rfl := os h
 exact rq [true]
def Kog (c : Ctx) : (List Int) → Exit → Q0a → Prop
 | a0 => Qcf c (.exit 0) (mkS [(12,.rs 8)] [(8,rI a0)])
def Koh (p : (List Int) × (List Int) × (List Int) × Int) : Option ((List Int)) :=
 match p with
 | (view1,a0,a1,a2) =>
  if (decide (a2 < (a0.length : Int))) = true then
  (idx a0 a2) >>= fun a3 =>
  (Kod (view1,a3)) >>= fun a4 =>
  ((
  if a4 = true then
  (Qd6 (a1.length + [a2].length) 8) >>= fun _ =>
  some ((a1 ++ [a2]))
  else
  some (a1)
  ) : Option ((List Int))) >>= fun a5 =>
  Koh (view1,a0,a5,(wr (a2 + 1)))
  else
  some (a1)
 partial_fixpoint
def Koi (p : (List Int) × (List Int) × (List Int) × Int) (fl : (List Int)) : Prop :=
 match p with
 | (view1,a0,a1,a2) => ∀ c : Ctx,c.nt = 47 → WpL Tryz.prog c (cl (cl (cr (cl (cr (cr (cr (cr B41)))))))) (Kog c fl) (mkS [(1,sI view1),(12,.rs 8),(31,.rs 4),(32,I (a0.length : Int)),(33,I a2)] [(4,rI a0),(8,rI a1)])
theorem Koj : ∀ p r,Koh p = some r → Koi p r := by
 refine Koh.partial_correctness Koi ?_
 rintro impl_SeenVariables_l0_f impl_SeenVariables_l0_ih ⟨view1,a0,a1,a2⟩ r h
 intro c hc
 refine WpL.step ?_
 refine K8h hc 1 [(1,sI view1),(12,.rs 8),(31,.rs 4),(32,I (a0.length : Int)),(33,I a2),(34,.bool (decide (a2 < (a0.length : Int))))] ?_
 refine sN ?_
 refine ic h (fun a3 h => ?_) fun a3 h => ?_
 ·refine sk ?_
  refine sN ?_
  refine bk 1 ?_
  obtain ⟨a4,a5,h⟩ := Qct h
  refine rss hc none [oN,oN,some (.el (I a4)),oN,oN] [(1,sI view1),(12,.rs 8),(13,I a2),(14,I a4),(31,.rs 4),(32,I (a0.length : Int)),(33,I a2)] (ab (Qcy (enc := I) a5) (ix a5).2 tv) ?_
  obtain ⟨a6,a7,h⟩ := Qct h
  refine rss hc none [oN,oN,oc (.bool a6)] [(1,sI view1),(12,.rs 8),(13,I a2),(31,.rs 4),(32,I (a0.length : Int)),(33,I a2),(40,.bool a6)] (cq (Kof _ _ a7) K80 tv) ?_
  obtain ⟨a8,a9,h⟩ := Qct h
  refine Wp.into (x := .normal) (mkS [(1,sI view1),(12,.rs 12),(31,.rs 4),(32,I (a0.length : Int)),(33,I a2)] [(4,rI a0),(12,rI a8)]) ?_ ?_
  ·replace h := a9
   refine ic h (fun b1 h => ?_) fun b1 h => ?_
   ·obtain ⟨_,b2,h⟩ := Qct h
    refine rg hc none [oN,oN,some (.mk 11 true),some (.eqv (.mk 12 true) ⟨[(44,.rs 12)],[(12,some (rI (a1 ++ [a2]))),(8,none),(11,none)],[12]⟩),oN] [(1,sI view1),(12,.rs 12),(31,.rs 4),(32,I (a0.length : Int)),(33,I a2)] [(4,rI a0),(12,rI (a1 ++ [a2]))] (ab (congrArg (fun z => (⟨[(44,.rs 12)],[(12,some (.arr z)),(8,none),(11,none)],[12]⟩ : Wr)) ((List.map_append).symm : (List.map I a1) ++ (List.map I [a2]) = List.map I (a1 ++ [a2]))) (Qd7 (enc1 := I) (enc2 := I) (e1 := a1) (e2 := [a2]) (sz := 1) Qdg Qdg b2) tv) ?_
    obtain rfl := os h
    exact Qcf.mk
   refine sk ?_
   obtain rfl := os h
   exact iv [(12,8)]
  clear a9
  refine K8g hc 2 [(1,sI view1),(12,.rs 12),(31,.rs 4),(32,I (a0.length : Int)),(33,I (wr (a2 + 1)))] ?_
  refine Qcb ?_
  exact WpL.view (fun a w hv => SRx.renL [(8,12)] hv (by kernel_rfl) (by kernel_rfl) (by kernel_rfl)) (impl_SeenVariables_l0_ih _ _ h c hc)
 refine xt 0 ?_
 refine Qc5 ?_
 refine Qcc ?_
 obtain rfl := os h
 exact iv []
def Kok (p : K00 × (List Int) × LL × K01) : Option ((List Int)) :=
 match p with
 | (s0,view1,ctx2,t3) =>
  (Kni (s0,ctx2,t3)) >>= fun (a0,a1,a2) =>
  ((
  if a2 = true then
  (Ko3 (s0,view1)) >>= fun a3 =>
  some ((!a3))
  else
  some (true)
  ) : Option (Bool)) >>= fun a4 =>
  if a4 = true then
  some []
  else
  (Koh (view1,a1,[],0)) >>= fun a5 =>
  some a5
def Kol (p : K00 × (List Int) × LL × K01) (r : (List Int)) : Prop :=
 match p with
 | (s0,view1,ctx2,t3) => Q71 Tryz.prog 41 [K1t s0,sI view1,sL ctx2,K1v t3] (oI r) []
theorem Kom : ∀ p r,Kok p = some r → Kol p r := by
 rintro ⟨s0,view1,ctx2,t3⟩ r h
 unfold Kok at h
 refine b0 Tryz.f41 B41 47 [(0,K1t s0),(1,sI view1),(2,sL ctx2),(3,K1v t3)] fun c hc => ?_
 refine rs hc none [some (.new 1),some (.new 2),oN] [(1,sI view1),(2,sL ctx2),(4,.ra 1 0),(7,.ra 2 0)] [(1,K1s s0),(2,K1u t3)] tv ?_
 obtain ⟨⟨a0,a1,a2⟩,a3,h⟩ := Qct h
 refine rs hc none [oN,oN,oN,some (.call (.tup [oI a0,oI a1,.bool a2]) [] 3),oN,oN,oN,oN,oN,oN,oN] [(1,sI view1),(4,.ra 1 0),(10,.rs 4),(11,.bool a2)] [(1,K1s s0),(4,rI a1)] (cq (Knk _ _ a3) K7u tv) ?_
 refine sN ?_
 refine sN ?_
 obtain ⟨a4,a5,h⟩ := Qct h
 refine Wp.into (x := .normal) (mkS [(1,sI view1),(10,.rs 4),(30,.bool a4)] [(4,rI a1)]) ?_ ?_
 ·replace h := a5
  rcases is h with ⟨a6,h⟩ | ⟨a6,h⟩
  ·obtain ⟨a7,a8,h⟩ := Qct h
   refine rg hc none [oN,oN,oN,oN,oN,oc (.bool a7),oN,oF] [(1,sI view1),(10,.rs 4),(30,.bool (!a7))] [(4,rI a1)] (ar 3 (nF a6) (cq (Ko5 _ _ a8) K7x (ar 2 (nF a6) tv))) ?_
   obtain rfl := os h
   exact Qcf.mk
  refine rg hc none [oN,oN,oN,o_,o_,o_,o_,oT] [(1,sI view1),(10,.rs 4),(30,.bool true)] [(4,rI a1)] (ar 4 (neF (nT a6)) (ai (nT a6) tv)) ?_
  obtain rfl := os h
  exact Qcf.mk
 clear a5
 refine ic h (fun a9 h => ?_) fun a9 h => ?_
 ·refine rs0 hc 1 [(8,.nils)] [] ?_
  refine rt ?_
  obtain rfl := os h
  exact rq [true]
 refine sk ?_
 refine K8h hc 1 [(1,sI view1),(10,.rs 4),(12,.nils)] ?_
 refine sN ?_
 refine rss hc none [oN,some (.eqv (.no) ⟨[(32,I (a1.length : Int))],[],[]⟩),oN] [(1,sI view1),(12,.nils),(31,.rs 4),(32,I (a1.length : Int)),(33,I 0)] (ai (Qcz (d := 32) I a1) tv) ?_
 refine bk 0 ?_
 obtain ⟨b1,b2,h⟩ := Qct h
 have hL := Koj _ _ b2 c hc
 refine Wp.loopN (by kernel_rfl) (WpL.view (fun a w hv => SRx.renL [(8,13)] (SRx.nilTL 12 13 hv (by kernel_rfl) (by kernel_rfl)) (by kernel_rfl) (by kernel_rfl) (by kernel_rfl)) (?_ : WpL _ c _ _ (mkS [(1,sI view1),(12,.rs 8),(31,.rs 4),(32,I (a1.length : Int)),(33,I 0)] [(4,rI a1),(8,.arr (List.map I []))])))
 refine WpL.into (e := (.exit 0)) (mkS [(12,.rs 8)] [(8,rI b1)]) hL ?_
 refine Qc7 ?_
 refine K8h hc 2 [(8,.rs 8)] ?_
 refine rt ?_
 obtain rfl := os h
 exact rq [true]
def Kon (c : Ctx) : (Unit) ⊕ (Bool) → Exit → Q0a → Prop
 | .inl _ => Qcf c (.exit 0) (mkS [] [])
 | .inr r => Qco TIx Tryz.f23 [] (.bool r)
def Koo (p : (List Int) × (List Int) × Int) : Option ((Unit) ⊕ (Bool)) :=
 match p with
 | (a0,b1,a1) =>
  if (decide (a1 < (a0.length : Int))) = true then
  (idx a0 a1) >>= fun a2 =>
  (idx b1 a1) >>= fun a3 =>
  if (a2 != a3) = true then
  some (.inr false)
  else
  Koo (a0,b1,(wr (a1 + 1)))
  else
  some (.inl ())
 partial_fixpoint
def Kop (p : (List Int) × (List Int) × Int) (fl : (Unit) ⊕ (Bool)) : Prop :=
 match p with
 | (a0,b1,a1) => ∀ c : Ctx,c.nt = 26 → WpL Tryz.prog c (cl (cl (cr (cl (cr (cr B23)))))) (Kon c fl) (mkS [(0,sI a0),(1,sI b1),(5,I a1)] [])
theorem Koq : ∀ p r,Koo p = some r → Kop p r := by
 refine Koo.partial_correctness Kop ?_
 rintro laws_eqIntS_l0_f laws_eqIntS_l0_ih ⟨a0,b1,a1⟩ r h
 intro c hc
 refine WpL.step ?_
 refine sN ?_
 refine rs hc none [oN,oN,some (.eqv (.no) ⟨[(13,I (a0.length : Int))],[],[]⟩),oN] [(0,sI a0),(1,sI b1),(5,I a1),(14,.bool (decide (a1 < (a0.length : Int))))] [] (ai (Qcz (d := 13) I a0) tv) ?_
 refine ic h (fun a2 h => ?_) fun a2 h => ?_
 ·refine sk ?_
  refine sN ?_
  refine bk 1 ?_
  obtain ⟨a3,a4,a5,a6,h⟩ := bq2 h
  refine rs hc Knq [oN,oN,some (.el (I a3)),oN,oN,oN,some (.el (I a5)),oN,oN] [(0,sI a0),(1,sI b1),(5,I a1),(25,.bool (a3 != a5))] [] (ab (ix a4) (ix a6) tv) ?_
  refine ic h (fun a7 h => ?_) fun a7 h => ?_
  ·refine rs0 hc 1 [(4,.bool false)] [] ?_
   refine rt ?_
   obtain rfl := os h
   exact re [true]
  refine sk ?_
  refine rg0 hc 3 [(0,sI a0),(1,sI b1),(5,I (wr (a1 + 1)))] [] ?_
  refine Qcb ?_
  exact (laws_eqIntS_l0_ih _ _ h c hc)
 refine xt 0 ?_
 refine Qc5 ?_
 refine Qcc ?_
 obtain rfl := os h
 exact iv []
def Kor (p : (List Int) × (List Int)) : Option (Bool) :=
 match p with
 | (a0,b1) =>
  if ((a0.length : Int) != (b1.length : Int)) = true then
  some false
  else
  (Koo (a0,b1,0)) >>= fun fl => match fl with
  | .inl () =>
   some true
  | .inr r =>
   some r
def Kos (p : (List Int) × (List Int)) (r : Bool) : Prop :=
 match p with
 | (a0,b1) => Q71 Tryz.prog 23 [sI a0,sI b1] (.bool r) []
theorem Kot : ∀ p r,Kor p = some r → Kos p r := by
 rintro ⟨a0,b1⟩ r h
 unfold Kor at h
 refine b0 Tryz.f23 B23 26 [(0,sI a0),(1,sI b1)] fun c hc => ?_
 refine rs0 hc 1 [(0,sI a0),(1,sI b1)] [] ?_
 refine sN ?_
 refine rs hc none [oN,some (.eqv (.no) ⟨[(7,I (a0.length : Int))],[],[]⟩),oN,some (.eqv (.no) ⟨[(9,I (b1.length : Int))],[],[]⟩),oN] [(0,sI a0),(1,sI b1),(10,.bool ((a0.length : Int) != (b1.length : Int)))] [] (ab (Qcz (d := 7) I a0) (Qcz (d := 9) I b1) tv) ?_
 refine ic h (fun a1 h => ?_) fun a1 h => ?_
 ·refine rs0 hc 1 [(4,.bool false)] [] ?_
  refine rt ?_
  obtain rfl := os h
  exact rq [true]
 refine sk ?_
 refine sN ?_
 refine rs0 hc 1 [(0,sI a0),(1,sI b1),(5,I 0)] [] ?_
 refine bk 0 ?_
 obtain ⟨fl,a2,h⟩ := Qct h
 have hL := Koq _ _ a2 c hc
 refine lp ?_
 rcases fl with ⟨⟩ | r
 ·refine WpL.into (e := (.exit 0)) (mkS [] []) hL ?_
  refine Qc7 ?_
  refine rs0 hc 1 [(4,.bool true)] [] ?_
  refine rt ?_
  obtain rfl := os h
  exact rq [true]
 refine WpL.mono hL ?_
 rintro _ _ ⟨rfl,hfin⟩
 obtain rfl := os h
 exact ⟨.inl rfl,hfin⟩
def Kou (c : Ctx) : (Unit) ⊕ (Bool) → Exit → Q0a → Prop
 | .inl _ => Qcf c (.exit 0) (mkS [] [])
 | .inr r => Qco TIx Tryz.f78 [] (.bool r)
def Kov (p : (List Bool) × (List Bool) × Int) : Option ((Unit) ⊕ (Bool)) :=
 match p with
 | (a0,b1,a1) =>
  if (decide (a1 < (a0.length : Int))) = true then
  (idx a0 a1) >>= fun a2 =>
  (idx b1 a1) >>= fun a3 =>
  if (a2 == a3) = true then
  Kov (a0,b1,(wr (a1 + 1)))
  else
  some (.inr false)
  else
  some (.inl ())
 partial_fixpoint
def Kow (p : (List Bool) × (List Bool) × Int) (fl : (Unit) ⊕ (Bool)) : Prop :=
 match p with
 | (a0,b1,a1) => ∀ c : Ctx,c.nt = 26 → WpL Tryz.prog c (cl (cl (cr (cl (cr (cr B78)))))) (Kou c fl) (mkS [(0,sB a0),(1,sB b1),(5,I a1)] [])
theorem Kox : ∀ p r,Kov p = some r → Kow p r := by
 refine Kov.partial_correctness Kow ?_
 rintro laws_eqBoolS_l0_f laws_eqBoolS_l0_ih ⟨a0,b1,a1⟩ r h
 intro c hc
 refine WpL.step ?_
 refine sN ?_
 refine rs hc none [oN,oN,some (.eqv (.no) ⟨[(13,I (a0.length : Int))],[],[]⟩),oN] [(0,sB a0),(1,sB b1),(5,I a1),(14,.bool (decide (a1 < (a0.length : Int))))] [] (ai (Qcz (d := 13) AV.bool a0) tv) ?_
 refine ic h (fun a2 h => ?_) fun a2 h => ?_
 ·refine sk ?_
  refine sN ?_
  refine bk 1 ?_
  obtain ⟨a3,a4,a5,a6,h⟩ := bq2 h
  refine rs hc Knq [oN,oN,some (.el (.bool a3)),oN,oN,oN,some (.el (.bool a5)),oN,oN] [(0,sB a0),(1,sB b1),(5,I a1),(25,.bool (!(a3 == a5)))] [] (ab (Qcx (enc := AV.bool) (x := .bool a3) a4 (Qda a3)) (Qcx (enc := AV.bool) (x := .bool a5) a6 (Qda a5)) tv) ?_
  rcases is h with ⟨a7,h⟩ | ⟨a7,h⟩
  ·refine cF ((!(a3 == a5))) (nF a7) ?_
   refine sk ?_
   refine rg0 hc 3 [(0,sB a0),(1,sB b1),(5,I (wr (a1 + 1)))] [] ?_
   refine Qcb ?_
   exact (laws_eqBoolS_l0_ih _ _ h c hc)
  refine cT ((!(a3 == a5))) (nT a7) ?_
  refine rs0 hc 1 [(4,.bool false)] [] ?_
  refine rt ?_
  obtain rfl := os h
  exact re [true]
 refine xt 0 ?_
 refine Qc5 ?_
 refine Qcc ?_
 obtain rfl := os h
 exact iv []
def Koy (p : (List Bool) × (List Bool)) : Option (Bool) :=
 match p with
 | (a0,b1) =>
  if ((a0.length : Int) != (b1.length : Int)) = true then
  some false
  else
  (Kov (a0,b1,0)) >>= fun fl => match fl with
  | .inl () =>
   some true
  | .inr r =>
   some r
def Koz (p : (List Bool) × (List Bool)) (r : Bool) : Prop :=
 match p with
 | (a0,b1) => Q71 Tryz.prog 78 [sB a0,sB b1] (.bool r) []
theorem Kp0 : ∀ p r,Koy p = some r → Koz p r := by
 rintro ⟨a0,b1⟩ r h
 unfold Koy at h
 refine b0 Tryz.f78 B78 26 [(0,sB a0),(1,sB b1)] fun c hc => ?_
 refine rs0 hc 1 [(0,sB a0),(1,sB b1)] [] ?_
 refine sN ?_
 refine rs hc none [oN,some (.eqv (.no) ⟨[(7,I (a0.length : Int))],[],[]⟩),oN,some (.eqv (.no) ⟨[(9,I (b1.length : Int))],[],[]⟩),oN] [(0,sB a0),(1,sB b1),(10,.bool ((a0.length : Int) != (b1.length : Int)))] [] (ab (Qcz (d := 7) AV.bool a0) (Qcz (d := 9) AV.bool b1) tv) ?_
 refine ic h (fun a1 h => ?_) fun a1 h => ?_
 ·refine rs0 hc 1 [(4,.bool false)] [] ?_
  refine rt ?_
  obtain rfl := os h
  exact rq [true]
 refine sk ?_
 refine sN ?_
 refine rs0 hc 1 [(0,sB a0),(1,sB b1),(5,I 0)] [] ?_
 refine bk 0 ?_
 obtain ⟨fl,a2,h⟩ := Qct h
 have hL := Kox _ _ a2 c hc
 refine lp ?_
 rcases fl with ⟨⟩ | r
 ·refine WpL.into (e := (.exit 0)) (mkS [] []) hL ?_
  refine Qc7 ?_
  refine rs0 hc 1 [(4,.bool true)] [] ?_
  refine rt ?_
  obtain rfl := os h
  exact rq [true]
 refine WpL.mono hL ?_
 rintro _ _ ⟨rfl,hfin⟩
 obtain rfl := os h
 exact ⟨.inl rfl,hfin⟩
def Kp1 (p : K00 × K00) : Option (Bool) :=
 match p with
 | (a0,b1) =>
  if (a0.fSize != b1.fSize) = true then
  some false
  else
  (Kor (a0.fPlus,b1.fPlus)) >>= fun a1 =>
  if a1 = true then
  (Kor (a0.fTimes,b1.fTimes)) >>= fun a2 =>
  if a2 = true then
  (Koy (a0.fBelow,b1.fBelow)) >>= fun a3 =>
  if a3 = true then
  some true
  else
  some false
  else
  some false
  else
  some false
def Kp2 (p : K00 × K00) (r : Bool) : Prop :=
 match p with
 | (a0,b1) => Q71 Tryz.prog 24 [K1t a0,K1t b1] (.bool r) []
theorem Kp3 : ∀ p r,Kp1 p = some r → Kp2 p r := by
 rintro ⟨a0,b1⟩ r h
 unfold Kp1 at h
 refine b0 Tryz.f24 B24 28 [(0,K1t a0),(1,K1t b1)] fun c hc => ?_
 refine rs hc none [some (.new 1),some (.new 2),oN] [(2,.ra 1 0),(3,.ra 2 0)] [(1,K1s a0),(2,K1s b1)] tv ?_
 refine sN ?_
 refine K8h hc 5 [(2,.ra 1 0),(3,.ra 2 0),(9,.bool (a0.fSize != b1.fSize))] ?_
 refine ic h (fun a1 h => ?_) fun a1 h => ?_
 ·refine rs0 hc 1 [(4,.bool false)] [] ?_
  refine rt ?_
  obtain rfl := os h
  exact rq [true]
 refine sk ?_
 refine sN ?_
 obtain ⟨a2,a3,h⟩ := Qct h
 refine rss hc none [oN,oN,oN,oN,oc (.bool a2),oN] [(2,.ra 1 0),(3,.ra 2 0),(15,.bool (!a2))] (cq (Kot _ _ a3) K82 tv) ?_
 rcases is h with ⟨a4,h⟩ | ⟨a4,h⟩
 ·refine cF (!a2) (nF a4) ?_
  refine sk ?_
  refine sN ?_
  obtain ⟨a5,a6,h⟩ := Qct h
  refine rss hc none [oN,oN,oN,oN,oc (.bool a5),oN] [(2,.ra 1 0),(3,.ra 2 0),(21,.bool (!a5))] (cq (Kot _ _ a6) K82 tv) ?_
  rcases is h with ⟨a7,h⟩ | ⟨a7,h⟩
  ·refine cF (!a5) (nF a7) ?_
   refine sk ?_
   refine sN ?_
   obtain ⟨a8,a9,h⟩ := Qct h
   refine rs hc none [oN,oN,oN,oN,oc (.bool a8),oN] [(27,.bool (!a8))] [] (cq (Kp0 _ _ a9) K83 tv) ?_
   rcases is h with ⟨b2,h⟩ | ⟨b2,h⟩
   ·refine cF (!a8) (nF b2) ?_
    refine sk ?_
    refine rs0 hc 1 [(4,.bool true)] [] ?_
    refine rt ?_
    obtain rfl := os h
    exact rq [true]
   refine cT (!a8) (nT b2) ?_
   refine rs0 hc 1 [(4,.bool false)] [] ?_
   refine rt ?_
   obtain rfl := os h
   exact rq [true]
  refine cT (!a5) (nT a7) ?_
  refine rs0 hc 1 [(4,.bool false)] [] ?_
  refine rt ?_
  obtain rfl := os h
  exact rq [true]
 refine cT (!a2) (nT a4) ?_
 refine rs0 hc 1 [(4,.bool false)] [] ?_
 refine rt ?_
 obtain rfl := os h
 exact rq [true]
def Kp4 (c : Ctx) : (Unit) ⊕ (Bool) → Exit → Q0a → Prop
 | .inl _ => Qcf c (.exit 0) (mkS [] [])
 | .inr r => Qco TIx Tryz.f25 [] (.bool r)
def Kp5 (p : LL × LL × Int) : Option ((Unit) ⊕ (Bool)) :=
 match p with
 | (a0,b1,a1) =>
  if (decide (a1 < (a0.length : Int))) = true then
  (idx a0 a1) >>= fun a2 =>
  (idx b1 a1) >>= fun a3 =>
  (Kor (a2,a3)) >>= fun a4 =>
  if a4 = true then
  Kp5 (a0,b1,(wr (a1 + 1)))
  else
  some (.inr false)
  else
  some (.inl ())
 partial_fixpoint
def Kp6 (p : LL × LL × Int) (fl : (Unit) ⊕ (Bool)) : Prop :=
 match p with
 | (a0,b1,a1) => ∀ c : Ctx,c.nt = 27 → WpL Tryz.prog c (cl (cl (cr (cl (cr (cr B25)))))) (Kp4 c fl) (mkS [(0,sL a0),(1,sL b1),(5,I a1)] [])
theorem Kp7 : ∀ p r,Kp5 p = some r → Kp6 p r := by
 refine Kp5.partial_correctness Kp6 ?_
 rintro laws_eqIntSS_l0_f laws_eqIntSS_l0_ih ⟨a0,b1,a1⟩ r h
 intro c hc
 refine WpL.step ?_
 refine sN ?_
 refine rs hc none [oN,oN,some (.eqv (.no) ⟨[(13,I (a0.length : Int))],[],[]⟩),oN] [(0,sL a0),(1,sL b1),(5,I a1),(14,.bool (decide (a1 < (a0.length : Int))))] [] (ai (Qcz (d := 13) K10 a0) tv) ?_
 refine ic h (fun a2 h => ?_) fun a2 h => ?_
 ·refine sk ?_
  refine sN ?_
  refine bk 1 ?_
  obtain ⟨a3,a4,a5,a6,a7,a8,h⟩ := bq3 h
  refine rs hc Knr [oN,oN,some (.el (sI a3)),oN,oN,oN,some (.el (sI a5)),oN,oc (.bool a7),oN] [(0,sL a0),(1,sL b1),(5,I a1),(26,.bool (!a7))] [] (ab (xL a4) (xL a6) (cq (Kot _ _ a8) K82 tv)) ?_
  rcases is h with ⟨a9,h⟩ | ⟨a9,h⟩
  ·refine cF (!a7) (nF a9) ?_
   refine sk ?_
   refine rg0 hc 3 [(0,sL a0),(1,sL b1),(5,I (wr (a1 + 1)))] [] ?_
   refine Qcb ?_
   exact (laws_eqIntSS_l0_ih _ _ h c hc)
  refine cT (!a7) (nT a9) ?_
  refine rs0 hc 1 [(4,.bool false)] [] ?_
  refine rt ?_
  obtain rfl := os h
  exact re [true]
 refine xt 0 ?_
 refine Qc5 ?_
 refine Qcc ?_
 obtain rfl := os h
 exact iv []
def Kp8 (p : LL × LL) : Option (Bool) :=
 match p with
 | (a0,b1) =>
  if ((a0.length : Int) != (b1.length : Int)) = true then
  some false
  else
  (Kp5 (a0,b1,0)) >>= fun fl => match fl with
  | .inl () =>
   some true
  | .inr r =>
   some r
def Kp9 (p : LL × LL) (r : Bool) : Prop :=
 match p with
 | (a0,b1) => Q71 Tryz.prog 25 [sL a0,sL b1] (.bool r) []
theorem Kpa : ∀ p r,Kp8 p = some r → Kp9 p r := by
 rintro ⟨a0,b1⟩ r h
 unfold Kp8 at h
 refine b0 Tryz.f25 B25 27 [(0,sL a0),(1,sL b1)] fun c hc => ?_
 refine rs0 hc 1 [(0,sL a0),(1,sL b1)] [] ?_
 refine sN ?_
 refine rs hc none [oN,some (.eqv (.no) ⟨[(7,I (a0.length : Int))],[],[]⟩),oN,some (.eqv (.no) ⟨[(9,I (b1.length : Int))],[],[]⟩),oN] [(0,sL a0),(1,sL b1),(10,.bool ((a0.length : Int) != (b1.length : Int)))] [] (ab (Qcz (d := 7) K10 a0) (Qcz (d := 9) K10 b1) tv) ?_
 refine ic h (fun a1 h => ?_) fun a1 h => ?_
 ·refine rs0 hc 1 [(4,.bool false)] [] ?_
  refine rt ?_
  obtain rfl := os h
  exact rq [true]
 refine sk ?_
 refine sN ?_
 refine rs0 hc 1 [(0,sL a0),(1,sL b1),(5,I 0)] [] ?_
 refine bk 0 ?_
 obtain ⟨fl,a2,h⟩ := Qct h
 have hL := Kp7 _ _ a2 c hc
 refine lp ?_
 rcases fl with ⟨⟩ | r
 ·refine WpL.into (e := (.exit 0)) (mkS [] []) hL ?_
  refine Qc7 ?_
  refine rs0 hc 1 [(4,.bool true)] [] ?_
  refine rt ?_
  obtain rfl := os h
  exact rq [true]
 refine WpL.mono hL ?_
 rintro _ _ ⟨rfl,hfin⟩
 obtain rfl := os h
 exact ⟨.inl rfl,hfin⟩
def Kpb (c : Ctx) : (Unit) ⊕ (Bool) → Exit → Q0a → Prop
 | .inl _ => Qcf c (.exit 0) (mkS [] [])
 | .inr r => Qco TIx Tryz.f79 [] (.bool r)
mutual
def Kpc (p : K01 × K01) : Option (Bool) :=
 match p with
 | (a0,b1) =>
  if (a0.fOp != b1.fOp) = true then
  some false
  else
  if (a0.fN != b1.fN) = true then
  some false
  else
  (Kor (a0.fType,b1.fType)) >>= fun a1 =>
  if a1 = true then
  (Kpd (a0.fKids,b1.fKids)) >>= fun a2 =>
  if a2 = true then
  some true
  else
  some false
  else
  some false
 partial_fixpoint
def Kpd (p : (List K01) × (List K01)) : Option (Bool) :=
 match p with
 | (a0,b1) =>
  if ((a0.length : Int) != (b1.length : Int)) = true then
  some false
  else
  (Kpe (a0,b1,0)) >>= fun fl => match fl with
  | .inl () =>
   some true
  | .inr r =>
   some r
 partial_fixpoint
def Kpe (p : (List K01) × (List K01) × Int) : Option ((Unit) ⊕ (Bool)) :=
 match p with
 | (a0,b1,a1) =>
  if (decide (a1 < (a0.length : Int))) = true then
  (idx a0 a1) >>= fun a2 =>
  (idx b1 a1) >>= fun a3 =>
  (Kpc (a2,a3)) >>= fun a4 =>
  if a4 = true then
  Kpe (a0,b1,(wr (a1 + 1)))
  else
  some (.inr false)
  else
  some (.inl ())
 partial_fixpoint
end
def Kpf (p : K01 × K01) (r : Bool) : Prop :=
 match p with
 | (a0,b1) => Q71 Tryz.prog 26 [K1v a0,K1v b1] (.bool r) []
def Kpg (p : (List K01) × (List K01)) (r : Bool) : Prop :=
 match p with
 | (a0,b1) => Q71 Tryz.prog 79 [.sl (List.map K0g a0),.sl (List.map K0g b1)] (.bool r) []
def Kph (p : (List K01) × (List K01) × Int) (fl : (Unit) ⊕ (Bool)) : Prop :=
 match p with
 | (a0,b1,a1) => ∀ c : Ctx,c.nt = 27 → WpL Tryz.prog c (cl (cl (cr (cl (cr (cr B79)))))) (Kpb c fl) (mkS [(0,.sl (List.map K0g a0)),(1,.sl (List.map K0g b1)),(5,I a1)] [])
theorem Kpi : (∀ p r,Kpc p = some r → Kpf p r) ∧ (∀ p r,Kpd p = some r → Kpg p r) ∧ (∀ p r,Kpe p = some r → Kph p r) := by
 refine Kpc.mutual_partial_correctness Kpf Kpg Kph ?_ ?_ ?_
 ·rintro laws_eqTermS_f laws_eqTermS_ih ⟨a0,b1⟩ r h
  refine b0 Tryz.f26 B26 27 [(0,K1v a0),(1,K1v b1)] fun c hc => ?_
  refine rs hc none [some (.new 1),some (.new 2),oN] [(2,.ra 1 0),(3,.ra 2 0)] [(1,K1u a0),(2,K1u b1)] tv ?_
  refine sN ?_
  refine K8h hc 5 [(2,.ra 1 0),(3,.ra 2 0),(9,.bool (a0.fOp != b1.fOp))] ?_
  refine ic h (fun a1 h => ?_) fun a1 h => ?_
  ·refine rs0 hc 1 [(4,.bool false)] [] ?_
   refine rt ?_
   obtain rfl := os h
   exact rq [true]
  refine sk ?_
  refine sN ?_
  refine K8h hc 5 [(2,.ra 1 0),(3,.ra 2 0),(14,.bool (a0.fN != b1.fN))] ?_
  refine ic h (fun a2 h => ?_) fun a2 h => ?_
  ·refine rs0 hc 1 [(4,.bool false)] [] ?_
   refine rt ?_
   obtain rfl := os h
   exact rq [true]
  refine sk ?_
  refine sN ?_
  obtain ⟨a3,a4,h⟩ := Qct h
  refine rss hc none [oN,oN,oN,oN,oc (.bool a3),oN] [(2,.ra 1 0),(3,.ra 2 0),(20,.bool (!a3))] (cq (Kot _ _ a4) K82 tv) ?_
  rcases is h with ⟨a5,h⟩ | ⟨a5,h⟩
  ·refine cF (!a3) (nF a5) ?_
   refine sk ?_
   refine sN ?_
   obtain ⟨a6,a7,h⟩ := Qct h
   refine rs hc none [oN,oN,oN,oN,oc (.bool a6),oN] [(26,.bool (!a6))] [] (cq (laws_eqTermS_ih _ _ a7) K86 tv) ?_
   rcases is h with ⟨a8,h⟩ | ⟨a8,h⟩
   ·refine cF (!a6) (nF a8) ?_
    refine sk ?_
    refine rs0 hc 1 [(4,.bool true)] [] ?_
    refine rt ?_
    obtain rfl := os h
    exact rq [true]
   refine cT (!a6) (nT a8) ?_
   refine rs0 hc 1 [(4,.bool false)] [] ?_
   refine rt ?_
   obtain rfl := os h
   exact rq [true]
  refine cT (!a3) (nT a5) ?_
  refine rs0 hc 1 [(4,.bool false)] [] ?_
  refine rt ?_
  obtain rfl := os h
  exact rq [true]
 ·rintro laws_eqTermS_l0_f laws_eqTermS_l0_ih ⟨a0,b1⟩ r h
  refine b0 Tryz.f79 B79 27 [(0,.sl (List.map K0g a0)),(1,.sl (List.map K0g b1))] fun c hc => ?_
  refine rs0 hc 1 [(0,.sl (List.map K0g a0)),(1,.sl (List.map K0g b1))] [] ?_
  refine sN ?_
  refine rs hc none [oN,some (.eqv (.no) ⟨[(7,I (a0.length : Int))],[],[]⟩),oN,some (.eqv (.no) ⟨[(9,I (b1.length : Int))],[],[]⟩),oN] [(0,.sl (List.map K0g a0)),(1,.sl (List.map K0g b1)),(10,.bool ((a0.length : Int) != (b1.length : Int)))] [] (ab (Qcz (d := 7) K0g a0) (Qcz (d := 9) K0g b1) tv) ?_
  refine ic h (fun a1 h => ?_) fun a1 h => ?_
  ·refine rs0 hc 1 [(4,.bool false)] [] ?_
   refine rt ?_
   obtain rfl := os h
   exact rq [true]
  refine sk ?_
  refine sN ?_
  refine rs0 hc 1 [(0,.sl (List.map K0g a0)),(1,.sl (List.map K0g b1)),(5,I 0)] [] ?_
  refine bk 0 ?_
  obtain ⟨fl,a9,h⟩ := Qct h
  have hL := laws_eqTermS_l0_ih _ _ a9 c hc
  refine lp ?_
  rcases fl with ⟨⟩ | r
  ·refine WpL.into (e := (.exit 0)) (mkS [] []) hL ?_
   refine Qc7 ?_
   refine rs0 hc 1 [(4,.bool true)] [] ?_
   refine rt ?_
   obtain rfl := os h
   exact rq [true]
  refine WpL.mono hL ?_
  rintro _ _ ⟨rfl,hfin⟩
  obtain rfl := os h
  exact ⟨.inl rfl,hfin⟩
 ·rintro laws_eqTerm_f laws_eqTermS_l0_f laws_eqTerm_ih laws_eqTermS_l0_ih ⟨a0,b1,b2⟩ r h
  intro c hc
  refine WpL.step ?_
  refine sN ?_
  refine rs hc none [oN,oN,some (.eqv (.no) ⟨[(13,I (a0.length : Int))],[],[]⟩),oN] [(0,.sl (List.map K0g a0)),(1,.sl (List.map K0g b1)),(5,I b2),(14,.bool (decide (b2 < (a0.length : Int))))] [] (ai (Qcz (d := 13) K0g a0) tv) ?_
  refine ic h (fun b3 h => ?_) fun b3 h => ?_
  ·refine sk ?_
   refine sN ?_
   refine bk 1 ?_
   obtain ⟨b4,b5,b6,b7,b8,b9,h⟩ := bq3 h
   refine rs hc Knr [oN,oN,some (.el (K1v b4)),oN,oN,oN,some (.el (K1v b6)),oN,oc (.bool b8),oN] [(0,.sl (List.map K0g a0)),(1,.sl (List.map K0g b1)),(5,I b2),(26,.bool (!b8))] [] (ab (Qcx b5 (K0n b4)) (Qcx b7 (K0n b6)) (cq (laws_eqTerm_ih _ _ b9) K87 tv)) ?_
   rcases is h with ⟨c0,h⟩ | ⟨c0,h⟩
   ·refine cF (!b8) (nF c0) ?_
    refine sk ?_
    refine rg0 hc 3 [(0,.sl (List.map K0g a0)),(1,.sl (List.map K0g b1)),(5,I (wr (b2 + 1)))] [] ?_
    refine Qcb ?_
    exact (laws_eqTermS_l0_ih _ _ h c hc)
   refine cT (!b8) (nT c0) ?_
   refine rs0 hc 1 [(4,.bool false)] [] ?_
   refine rt ?_
   obtain rfl := os h
   exact re [true]
  refine xt 0 ?_
  refine Qc5 ?_
  refine Qcc ?_
  obtain rfl := os h
  exact iv []
theorem Kpj : ∀ p r,Kpc p = some r → Kpf p r := Kpi.1
theorem Kpk : ∀ p r,Kpd p = some r → Kpg p r := Kpi.2.1
theorem Kpl : ∀ p r,Kpe p = some r → Kph p r := Kpi.2.2
def Kpm (c : Ctx) : Int × (List Int) → Exit → Q0a → Prop
 | (a0,a1) => Qcf c (.exit 0) (mkS [(1,I a0)] [(1000,rI a1)])
def Kpn (p : (List Int) × Int × Int) : Option (Int × (List Int)) :=
 match p with
 | (a0,a1,a2) =>
  if (decide (a2 < (a0.length : Int))) = true then
  (idx a0 a2) >>= fun a3 =>
  Kpn ((List.set a0 (Int.toNat a2) a1),(wr (a1 + 1)),(wr (a2 + 1)))
  else
  some ((a1,a0))
 partial_fixpoint
def Kpo (p : (List Int) × Int × Int) (fl : Int × (List Int)) : Prop :=
 match p with
 | (a0,a1,a2) => ∀ c : Ctx,c.nt = 19 → WpL Tryz.prog c (cl (cl (cr (cl (cr B30))))) (Kpm c fl) (mkS [(0,.rs 1000),(1,I a1),(5,I a2)] [(1000,rI a0)])
theorem Kpp : ∀ p r,Kpn p = some r → Kpo p r := by
 refine Kpn.partial_correctness Kpo ?_
 rintro laws_markIntS_l0_f laws_markIntS_l0_ih ⟨a0,a1,a2⟩ r h
 intro c hc
 refine WpL.step ?_
 refine sN ?_
 refine rss hc none [oN,oN,some (.eqv (.no) ⟨[(8,I (a0.length : Int))],[],[]⟩),oN] [(0,.rs 1000),(1,I a1),(5,I a2),(9,.bool (decide (a2 < (a0.length : Int))))] (ai (Qcz (d := 8) I a0) tv) ?_
 refine ic h (fun a3 h => ?_) fun a3 h => ?_
 ·refine sk ?_
  refine sN ?_
  refine bk 1 ?_
  obtain ⟨a4,a5,h⟩ := Qct h
  refine rs hc none [oN,oN,oN,oN,some (.eqv (.mk 0 true) ⟨[],[(1000,some (.arr (List.map I (List.set a0 (Int.toNat a2) a1))))],[]⟩)] [(0,.rs 1000),(1,I a1),(5,I a2)] [(1000,.arr (List.map I (List.set a0 (Int.toNat a2) a1)))] (ac (Qcy (enc := I) a5) (congrArg (fun z => (⟨[],[(1000,some (.arr z))],[]⟩ : Wr)) (Qdw (enc := I) (i := Int.toNat a2) (l := a0) (v := a1) (x := I a1) (Qd8 a1))) (Qdx (enc := I) (sz := 1) Qdc a5) tv) ?_
  refine K8g hc 3 [(0,.rs 1000),(1,I (wr (a1 + 1))),(5,I a2)] ?_
  refine K8g hc 3 [(0,.rs 1000),(1,I (wr (a1 + 1))),(5,I (wr (a2 + 1)))] ?_
  refine Qcb ?_
  exact (laws_markIntS_l0_ih _ _ h c hc)
 refine xt 0 ?_
 refine Qc5 ?_
 refine Qcc ?_
 obtain ⟨rfl,rfl⟩ := Prod.mk.inj (Option.some.inj h)
 exact iv []
def Kpq (p : (List Int) × Int) : Option (Int × (List Int)) :=
 match p with
 | (a0,k1) =>
  (Kpn (a0,k1,0)) >>= fun (a1,a2) =>
  some (a1,a2)
def Kpr (p : (List Int) × Int) (r : Int × (List Int)) : Prop :=
 match p with
 | (a0,k1) => Q71 Tryz.prog 30 [oI a0,I k1] (I r.1) [oI r.2,.undef]
theorem Kps : ∀ p r,Kpq p = some r → Kpr p r := by
 rintro ⟨a0,k1⟩ r h
 unfold Kpq at h
 refine Q71.bodyO K2w (fn := Tryz.f30) (code := B30) (by kernel_rfl) (by kernel_rfl) (by kernel_rfl) (nt := 19) (by kernel_rfl) (by kernel_rfl) (T := [(0,.rs 1000),(1,I k1)]) (O := [(1000,rI a0)]) (by kernel_rfl) (by kernel_rfl) (fun c hc => ?_)
 refine K8h hc 1 [(0,.rs 1000),(1,I k1)] ?_
 refine sN ?_
 refine K8h hc 1 [(0,.rs 1000),(1,I k1),(5,I 0)] ?_
 refine bk 0 ?_
 obtain ⟨⟨a1,a2⟩,a3,h⟩ := Qct h
 have hL := Kpp _ _ a3 c hc
 refine lp ?_
 refine WpL.into (e := (.exit 0)) (mkS [(1,I a1)] [(1000,rI a2)]) hL ?_
 refine Qc7 ?_
 refine K8h hc 2 [(4,I a1)] ?_
 refine rt ?_
 obtain rfl := os h
 exact Qcq.ret (fl := [true]) (by kernel_rfl)
def Kpt (c : Ctx) : Int × (List Bool) → Exit → Q0a → Prop
 | (a0,a1) => Qcf c (.exit 0) (mkS [(1,I a0)] [(1000,.arr (List.map AV.bool a1))])
def Kpu (p : (List Bool) × Int × Int) : Option (Int × (List Bool)) :=
 match p with
 | (a0,a1,a2) =>
  if (decide (a2 < (a0.length : Int))) = true then
  (idx a0 a2) >>= fun a3 =>
  Kpu ((List.set a0 (Int.toNat a2) ((Int.tmod a1 3) == 0)),(wr (a1 + 1)),(wr (a2 + 1)))
  else
  some ((a1,a0))
 partial_fixpoint
def Kpv (p : (List Bool) × Int × Int) (fl : Int × (List Bool)) : Prop :=
 match p with
 | (a0,a1,a2) => ∀ c : Ctx,c.nt = 21 → WpL Tryz.prog c (cl (cl (cr (cl (cr B80))))) (Kpt c fl) (mkS [(0,.rs 1000),(1,I a1),(5,I a2)] [(1000,.arr (List.map AV.bool a0))])
theorem Kpw : ∀ p r,Kpu p = some r → Kpv p r := by
 refine Kpu.partial_correctness Kpv ?_
 rintro laws_markBoolS_l0_f laws_markBoolS_l0_ih ⟨a0,a1,a2⟩ r h
 intro c hc
 refine WpL.step ?_
 refine sN ?_
 refine rss hc none [oN,oN,some (.eqv (.no) ⟨[(8,I (a0.length : Int))],[],[]⟩),oN] [(0,.rs 1000),(1,I a1),(5,I a2),(9,.bool (decide (a2 < (a0.length : Int))))] (ai (Qcz (d := 8) AV.bool a0) tv) ?_
 refine ic h (fun a3 h => ?_) fun a3 h => ?_
 ·refine sk ?_
  refine sN ?_
  refine bk 1 ?_
  obtain ⟨a4,a5,h⟩ := Qct h
  refine rs hc none [oN,oN,oN,oN,oN,oN,some (.eqv (.mk 0 true) ⟨[],[(1000,some (.arr (List.map AV.bool (List.set a0 (Int.toNat a2) ((Int.tmod a1 3) == 0)))))],[]⟩)] [(0,.rs 1000),(1,I a1),(5,I a2)] [(1000,.arr (List.map AV.bool (List.set a0 (Int.toNat a2) ((Int.tmod a1 3) == 0))))] (ad ((by decide) : (3 : Int) ≠ 0) (Qcy (enc := AV.bool) a5) (congrArg (fun z => (⟨[],[(1000,some (.arr z))],[]⟩ : Wr)) (Qdw (enc := AV.bool) (i := Int.toNat a2) (l := a0) (v := ((Int.tmod a1 3) == 0)) (x := AV.bool ((Int.tmod a1 3) == 0)) (Qda ((Int.tmod a1 3) == 0)))) (Qdx (enc := AV.bool) (sz := 1) Qde a5) tv) ?_
  refine K8g hc 3 [(0,.rs 1000),(1,I (wr (a1 + 1))),(5,I a2)] ?_
  refine K8g hc 3 [(0,.rs 1000),(1,I (wr (a1 + 1))),(5,I (wr (a2 + 1)))] ?_
  refine Qcb ?_
  exact (laws_markBoolS_l0_ih _ _ h c hc)
 refine xt 0 ?_
 refine Qc5 ?_
 refine Qcc ?_
 obtain ⟨rfl,rfl⟩ := Prod.mk.inj (Option.some.inj h)
 exact iv []
def Kpx (p : (List Bool) × Int) : Option (Int × (List Bool)) :=
 match p with
 | (a0,k1) =>
  (Kpu (a0,k1,0)) >>= fun (a1,a2) =>
  some (a1,a2)
def Kpy (p : (List Bool) × Int) (r : Int × (List Bool)) : Prop :=
 match p with
 | (a0,k1) => Q71 Tryz.prog 80 [.osl (List.map AV.bool a0),I k1] (I r.1) [.osl (List.map AV.bool r.2),.undef]
theorem Kpz : ∀ p r,Kpx p = some r → Kpy p r := by
 rintro ⟨a0,k1⟩ r h
 unfold Kpx at h
 refine Q71.bodyO K2w (fn := Tryz.f80) (code := B80) (by kernel_rfl) (by kernel_rfl) (by kernel_rfl) (nt := 21) (by kernel_rfl) (by kernel_rfl) (T := [(0,.rs 1000),(1,I k1)]) (O := [(1000,.arr (List.map AV.bool a0))]) (by kernel_rfl) (by kernel_rfl) (fun c hc => ?_)
 refine K8h hc 1 [(0,.rs 1000),(1,I k1)] ?_
 refine sN ?_
 refine K8h hc 1 [(0,.rs 1000),(1,I k1),(5,I 0)] ?_
 refine bk 0 ?_
 obtain ⟨⟨a1,a2⟩,a3,h⟩ := Qct h
 have hL := Kpw _ _ a3 c hc
 refine lp ?_
 refine WpL.into (e := (.exit 0)) (mkS [(1,I a1)] [(1000,.arr (List.map AV.bool a2))]) hL ?_
 refine Qc7 ?_
 refine K8h hc 2 [(4,I a1)] ?_
 refine rt ?_
 obtain rfl := os h
 exact Qcq.ret (fl := [true]) (by kernel_rfl)
end Go.Am
