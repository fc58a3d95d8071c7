/- Walks, printed. -/
import Derived.Test.YtckgdfakjjdodaaGreatGFIMF11
set_option linter.unusedVariables false
set_option linter.unusedSimpArgs false
set_option maxRecDepth 100000
namespace Go.Am
open Go Go.Proofs
def Kp5 : Option (List (List Nat)) := rx [[0],[1],[2],[3],[4],[5],[6],[7],[8],[9],[10],[11],[8],[8,12],[8,12,13],[8,12,13,14],[8,12,13,14,15],[8,12,13,14,15,16],[8,12,13,14,15,16,17],[8,12,13,14,15,16,17,18],[8,12,13,14,15,16,17,18,19],[8,12,13,14,15,16,17,18,19,20],[8,12,13,14,15,16,17,18,19,20,21],[8,12,13,14,15,16,17,18,19,20,21,22],[24],[25],[26]]
def Kp6 : Option (List (List Nat)) := rx [[0],[0],[2],[3],[4],[5],[5],[5],[5,6,7],[5,6,7,8],[5],[11],[12],[13]]
mutual
def Kp7 (p : K06 × LL × K01) : Option (K04) :=
 match p with
 | (p0,ctx1,t2) =>
  (chk (0 ≤ (ctx1.length : Int) ∧ (Int.toNat (ctx1.length : Int)) * 8 ≤ 140737488355328)) >>= fun _ =>
  (Kp8 (p0,ctx1,t2,[],[],[],0)) >>= fun fl => match fl with
  | .inl (a0,a1,a2) =>
   (Kp1 (p0,(K04.mk [] (List.replicate (Int.toNat (ctx1.length : Int)) 0) a0 0 []),ctx1,t2,a1,a2)) >>= fun (a3,a4) =>
   if (a3 != 0) = true then
   some (K04.mk [] [] [] a3 [])
   else
   some (K04.mk a4.fty a4.fneeds a4.fkids a3 a4.fpath)
  | .inr r =>
   some r
 partial_fixpoint
def Kp8 (p : K06 × LL × K01 × (List K04) × LL × LL × Int) : Option (((List K04) × LL × LL) ⊕ (K04)) :=
 match p with
 | (p0,ctx1,t2,a0,a1,a2,a3) =>
  if (decide (a3 < (t2.fKids.length : Int))) = true then
  (idx t2.fKids a3) >>= fun a4 =>
  ((
  if (decide (a3 > 0)) = true then
  some (true)
  else
  some ((t2.fOp == 9))
  ) : Option (Bool)) >>= fun a5 =>
  ((
  if a5 = true then
  ((
  if (decide (a3 > 0)) = true then
  (idx a0 0) >>= fun a6 =>
  some (a6.fty)
  else
  some ([])
  ) : Option ((List Int))) >>= fun a7 =>
  (Kly (t2,a3,a7)) >>= fun a8 =>
  some (a8)
  else
  some ([])
  ) : Option (LL)) >>= fun a9 =>
  (Kmc [a9,ctx1]) >>= fun b1 =>
  (Kp7 (p0,b1,a4)) >>= fun b2 =>
  if (b2.ffault != 0) = true then
  (Qdq ([a3].length + b2.fpath.length) 8) >>= fun _ =>
  some (.inr (K04.mk [] [] [] b2.ffault ([a3] ++ b2.fpath)))
  else
  (Kmg (p0,t2,a3,b2.fty)) >>= fun b3 =>
  if (b3 != 0) = true then
  some (.inr (K04.mk [] [] [] b3 []))
  else
  ((
  if (t2.fOp == 10) = true then
  if (a3 == 1) = true then
  (idx a0 0) >>= fun b4 =>
  (Klv b4.fty) >>= fun b5 =>
  (idx b5 0) >>= fun b6 =>
  (Kmn (b2.fty,b6)) >>= fun b7 =>
  some ((!b7))
  else
  some (false)
  else
  some (false)
  ) : Option (Bool)) >>= fun b8 =>
  if b8 = true then
  some (.inr (K04.mk [] [] [] 3 []))
  else
  (Qdq (a0.length + [b2].length) 8) >>= fun _ =>
  (cut b2.fneeds none (some (a9.length : Int)) none) >>= fun b9 =>
  (Qdq (a2.length + [b9].length) 24) >>= fun _ =>
  (cut b2.fneeds (some (a9.length : Int)) none none) >>= fun c0 =>
  (Qdq (a1.length + [c0].length) 24) >>= fun _ =>
  Kp8 (p0,ctx1,t2,(a0 ++ [b2]),(a1 ++ [c0]),(a2 ++ [b9]),(wr (a3 + 1)))
  else
  some (.inl (a0,a1,a2))
 partial_fixpoint
end
def Kp9 (p : K06 × LL × K01) (r : K04) : Prop :=
 match p with
 | (p0,ctx1,t2) => Q71 Tryz.prog 173 [K26 p0,sL ctx1,K1y t2] (.ptr [sI r.fty,sI r.fneeds,.sl (List.map K07 r.fkids),I r.ffault,sI r.fpath] 0) []
def Kpa (p : K06 × LL × K01 × (List K04) × LL × LL × Int) (fl : ((List K04) × LL × LL) ⊕ (K04)) : Prop :=
 match p with
 | (p0,ctx1,t2,a0,a1,a2,a3) => ∀ c : Ctx,c.nt = 171 → WpL Tryz.prog c (cl (cl (cr (cl (cr (cr (cr (cr K7t)))))))) (Kp4 c p0 ctx1 t2 fl) (mkS [(1,sL ctx1),(3,.ra 1 0),(5,.ra 2 0),(7,.ra 4 0),(8,.rs 21),(9,.rs 22),(22,.sl (List.map K0h t2.fKids)),(23,I (t2.fKids.length : Int)),(24,I a3)] [(1,K25 p0),(2,K1x t2),(3,.arr (List.map I (List.replicate (Int.toNat (ctx1.length : Int)) 0))),(4,.box [.nils,.rs 3,.rs 20,I 0,.nils]),(20,.arr (List.map K07 a0)),(21,.arr (List.map K14 a1)),(22,.arr (List.map K14 a2))])
theorem Kpb : (∀ p r,Kp7 p = some r → Kp9 p r) ∧ (∀ p r,Kp8 p = some r → Kpa p r) := by
 refine Kp7.mutual_partial_correctness Kp9 Kpa ?_ ?_
 ·rintro impl_typertyp_l0_f impl_typertyp_l0_ih ⟨p0,ctx1,t2⟩ r h
  refine b0 Tryz.f173 K7t 171 [(0,K26 p0),(1,sL ctx1),(2,K1y t2)] fun c hc => ?_
  refine rs hc none [some (.new 1),some (.new 2),oN] [(1,sL ctx1),(3,.ra 1 0),(5,.ra 2 0)] [(1,K25 p0),(2,K1x t2)] tv ?_
  obtain ⟨_,a0,h⟩ := Qdd h
  refine rs hc none [oN,some (.eqv (.no) ⟨[(17,I (ctx1.length : Int))],[],[]⟩),some (.eqv (.mk 3 true) ⟨[(18,.rs 3)],[(3,some (.arr (List.map I (List.replicate (Int.toNat (ctx1.length : Int)) 0))))],[3]⟩),oN,some (.new 4),oN] [(1,sL ctx1),(3,.ra 1 0),(5,.ra 2 0),(7,.ra 4 0)] [(1,K25 p0),(2,K1x t2),(3,.arr (List.map I (List.replicate (Int.toNat (ctx1.length : Int)) 0))),(4,.box [.nils,.rs 3,.nils,I 0,.nils])] (ac (Qdj (d := 17) K14 ctx1) (congrArg (fun z => (⟨[(18,.rs 3)],[(3,some (.arr z))],[3]⟩ : Wr)) (Qei (enc := I) (n := Int.toNat (ctx1.length : Int)) (x := I 0) (Qds 0))) (And.intro (Eq.refl (ctx1.length : Int)) (Qdf a0)) tv) ?_
  refine K9m hc 1 [(1,sL ctx1),(3,.ra 1 0),(5,.ra 2 0),(7,.ra 4 0),(8,.nils)] ?_
  refine K9m hc 1 [(1,sL ctx1),(3,.ra 1 0),(5,.ra 2 0),(7,.ra 4 0),(8,.nils),(9,.nils)] ?_
  refine sN ?_
  refine rss hc none [oN,oN,some (.eqv (.no) ⟨[(23,I (t2.fKids.length : Int))],[],[]⟩),oN] [(1,sL ctx1),(3,.ra 1 0),(5,.ra 2 0),(7,.ra 4 0),(8,.nils),(9,.nils),(22,.sl (List.map K0h t2.fKids)),(23,I (t2.fKids.length : Int)),(24,I 0)] (ai (Qdj (d := 23) K0h t2.fKids) tv) ?_
  refine bk 0 ?_
  obtain ⟨fl,a1,h⟩ := Qdd h
  have hL := impl_typertyp_l0_ih _ _ a1 c hc
  refine Wp.loopN (by kernel_rfl) (WpL.view (fun a w hv => SRx.renL [(20,57),(21,58),(22,59)] (SRx.nilTL 9 59 (SRx.nilTL 8 58 (SRx.nilBL 4 2 57 [.nils,.rs 3,.nils,I 0,.nils] hv (by kernel_rfl) (by kernel_rfl) (by kernel_rfl)) (by kernel_rfl) (by kernel_rfl)) (by kernel_rfl) (by kernel_rfl)) (by kernel_rfl) (by kernel_rfl) (by kernel_rfl)) (?_ : WpL _ c _ _ (mkS [(1,sL ctx1),(3,.ra 1 0),(5,.ra 2 0),(7,.ra 4 0),(8,.rs 21),(9,.rs 22),(22,.sl (List.map K0h t2.fKids)),(23,I (t2.fKids.length : Int)),(24,I 0)] [(1,K25 p0),(2,K1x t2),(3,.arr (List.map I (List.replicate (Int.toNat (ctx1.length : Int)) 0))),(4,.box [.nils,.rs 3,.rs 20,I 0,.nils]),(20,.arr (List.map K07 [])),(21,.arr (List.map K14 [])),(22,.arr (List.map K14 []))])))
  rcases fl with ⟨a2,a3,a4⟩ | r
  ·refine WpL.into (e := (.exit 0)) (mkS [(1,sL ctx1),(3,.ra 1 0),(5,.ra 2 0),(7,.ra 4 0),(8,.rs 21),(9,.rs 22)] [(1,K25 p0),(2,K1x t2),(3,.arr (List.map I (List.replicate (Int.toNat (ctx1.length : Int)) 0))),(4,.box [.nils,.rs 3,.rs 20,I 0,.nils]),(20,.arr (List.map K07 a2)),(21,.arr (List.map K14 a3)),(22,.arr (List.map K14 a4))]) hL ?_
   refine Qcr ?_
   refine sN ?_
   refine vz 21 (K18 a3) [(1,sL ctx1),(3,.ra 1 0),(5,.ra 2 0),(7,.ra 4 0),(8,sL a3),(9,.rs 22)] [(1,K25 p0),(2,K1x t2),(3,.arr (List.map I (List.replicate (Int.toNat (ctx1.length : Int)) 0))),(4,.box [.nils,.rs 3,.rs 20,I 0,.nils]),(20,.arr (List.map K07 a2)),(22,.arr (List.map K14 a4))] ?_
   refine vz 22 (K18 a4) [(1,sL ctx1),(3,.ra 1 0),(5,.ra 2 0),(7,.ra 4 0),(8,sL a3),(9,sL a4)] [(1,K25 p0),(2,K1x t2),(3,.arr (List.map I (List.replicate (Int.toNat (ctx1.length : Int)) 0))),(4,.box [.nils,.rs 3,.rs 20,I 0,.nils]),(20,.arr (List.map K07 a2))] ?_
   obtain ⟨⟨a5,a6⟩,a7,h⟩ := Qdd h
   refine rg hc none [oN,oN,oN,oN,oN,oN,oN,some (.call (I a5) [.undef,.optr [sI a6.fty,sI a6.fneeds,.sl (List.map K07 a6.fkids),I a6.ffault,sI a6.fpath],.undef,.undef,.undef,.undef] 1),oN,oN,oN] [(7,.ra 4 0)] [(4,.box [sI a6.fty,sI a6.fneeds,.sl (List.map K07 a6.fkids),I a5,sI a6.fpath])] (ab (Kp3 _ _ a7) K8p tv) ?_
   refine sN ?_
   refine K9m hc 5 [(7,.ra 4 0),(163,.bool (a5 != 0))] ?_
   refine ic h (fun a8 h => ?_) fun a8 h => ?_
   ·refine rs hc none [oN,oN,oN,oN,oN,some (.new 60),oN] [(6,.ra 60 0)] [(60,.box [.nils,.nils,.nils,I a5,.nils])] tv ?_
    refine vb 60 [.nils,.nils,.nils,I a5,.nils] [(6,.ptr [.sl (List.map I []),.sl (List.map I []),.sl (List.map K07 []),I a5,.sl (List.map I [])] 0)] [] ?_
    refine rt ?_
    obtain rfl := os h
    exact rq [false]
   refine sk ?_
   refine K9m hc 2 [(6,.ra 4 0)] ?_
   refine vb 4 [sI a6.fty,sI a6.fneeds,.sl (List.map K07 a6.fkids),I a5,sI a6.fpath] [(6,.ptr [sI a6.fty,sI a6.fneeds,.sl (List.map K07 a6.fkids),I a5,sI a6.fpath] 0)] [] ?_
   refine rt ?_
   obtain rfl := os h
   exact rq [false]
  refine WpL.mono hL ?_
  rintro _ _ ⟨rfl,hfin⟩
  obtain rfl := os h
  exact ⟨.inl rfl,hfin⟩
 ·rintro impl_typertyp_f impl_typertyp_l0_f impl_typertyp_ih impl_typertyp_l0_ih ⟨p0,ctx1,t2,a9,b1,b2,b3⟩ r h
  intro c hc
  refine WpL.step ?_
  refine K9m hc 1 [(1,sL ctx1),(3,.ra 1 0),(5,.ra 2 0),(7,.ra 4 0),(8,.rs 21),(9,.rs 22),(22,.sl (List.map K0h t2.fKids)),(23,I (t2.fKids.length : Int)),(24,I b3),(25,.bool (decide (b3 < (t2.fKids.length : Int))))] ?_
  refine sN ?_
  refine ic h (fun b4 h => ?_) fun b4 h => ?_
  ·refine sk ?_
   refine sN ?_
   refine bk 1 ?_
   obtain ⟨b5,b6,h⟩ := Qdd h
   refine rs hc none [oN,some (.el (K1y b5)),oN,some (.new 40),oN,oN] [(1,sL ctx1),(3,.ra 1 0),(5,.ra 2 0),(7,.ra 4 0),(8,.rs 21),(9,.rs 22),(10,I b3),(11,.ra 40 0),(22,.sl (List.map K0h t2.fKids)),(23,I (t2.fKids.length : Int)),(24,I b3)] [(1,K25 p0),(2,K1x t2),(3,.arr (List.map I (List.replicate (Int.toNat (ctx1.length : Int)) 0))),(4,.box [.nils,.rs 3,.rs 20,I 0,.nils]),(20,.arr (List.map K07 a9)),(21,.arr (List.map K14 b1)),(22,.arr (List.map K14 b2)),(40,K1x b5)] (ai (Qdh b6 (K0o b5)) tv) ?_
   refine K9m hc 1 [(1,sL ctx1),(3,.ra 1 0),(5,.ra 2 0),(7,.ra 4 0),(8,.rs 21),(9,.rs 22),(10,I b3),(11,.ra 40 0),(12,.nils),(22,.sl (List.map K0h t2.fKids)),(23,I (t2.fKids.length : Int)),(24,I b3)] ?_
   refine sN ?_
   refine sN ?_
   obtain ⟨b7,b8,h⟩ := Qdd h
   refine Wp.into (x := .normal) (mkS [(1,sL ctx1),(3,.ra 1 0),(5,.ra 2 0),(7,.ra 4 0),(8,.rs 21),(9,.rs 22),(10,I b3),(11,.ra 40 0),(12,.nils),(22,.sl (List.map K0h t2.fKids)),(23,I (t2.fKids.length : Int)),(24,I b3),(35,.bool b7)] [(1,K25 p0),(2,K1x t2),(3,.arr (List.map I (List.replicate (Int.toNat (ctx1.length : Int)) 0))),(4,.box [.nils,.rs 3,.rs 20,I 0,.nils]),(20,.arr (List.map K07 a9)),(21,.arr (List.map K14 b1)),(22,.arr (List.map K14 b2)),(40,K1x b5)]) ?_ ?_
   ·replace h := b8
    rcases is h with ⟨b9,h⟩ | ⟨b9,h⟩
    ·refine rgs hc none [oN,oN,oN,o_,o_,o_,oT] [(1,sL ctx1),(3,.ra 1 0),(5,.ra 2 0),(7,.ra 4 0),(8,.rs 21),(9,.rs 22),(10,I b3),(11,.ra 40 0),(12,.nils),(22,.sl (List.map K0h t2.fKids)),(23,I (t2.fKids.length : Int)),(24,I b3),(35,.bool true)] (ar 3 (neF b9) (ai b9 tv)) ?_
     obtain rfl := os h
     exact Qcz.mk
    refine rgs hc none [oN,oN,oN,oN,oN,oN,oF] [(1,sL ctx1),(3,.ra 1 0),(5,.ra 2 0),(7,.ra 4 0),(8,.rs 21),(9,.rs 22),(10,I b3),(11,.ra 40 0),(12,.nils),(22,.sl (List.map K0h t2.fKids)),(23,I (t2.fKids.length : Int)),(24,I b3),(35,.bool (t2.fOp == 9))] (ar 4 b9 tv) ?_
    obtain rfl := os h
    exact Qcz.mk
   clear b8
   obtain ⟨c0,c1,h⟩ := Qdd h
   refine Wp.into (x := .normal) (mkS [(1,sL ctx1),(3,.ra 1 0),(5,.ra 2 0),(7,.ra 4 0),(8,.rs 21),(9,.rs 22),(10,I b3),(11,.ra 40 0),(12,.rs 41),(22,.sl (List.map K0h t2.fKids)),(23,I (t2.fKids.length : Int)),(24,I b3)] [(1,K25 p0),(2,K1x t2),(3,.arr (List.map I (List.replicate (Int.toNat (ctx1.length : Int)) 0))),(4,.box [.nils,.rs 3,.rs 20,I 0,.nils]),(20,.arr (List.map K07 a9)),(21,.arr (List.map K14 b1)),(22,.arr (List.map K14 b2)),(40,K1x b5),(41,.arr (List.map K14 c0))]) ?_ ?_
   ·replace h := c1
    refine ic h (fun c2 h => ?_) fun c2 h => ?_
    ·refine K9m hc 1 [(1,sL ctx1),(3,.ra 1 0),(5,.ra 2 0),(7,.ra 4 0),(8,.rs 21),(9,.rs 22),(10,I b3),(11,.ra 40 0),(13,.nils),(22,.sl (List.map K0h t2.fKids)),(23,I (t2.fKids.length : Int)),(24,I b3)] ?_
     refine sN ?_
     refine K9m hc 2 [(1,sL ctx1),(3,.ra 1 0),(5,.ra 2 0),(7,.ra 4 0),(8,.rs 21),(9,.rs 22),(10,I b3),(11,.ra 40 0),(13,.nils),(22,.sl (List.map K0h t2.fKids)),(23,I (t2.fKids.length : Int)),(24,I b3),(37,.bool (decide (b3 > 0)))] ?_
     obtain ⟨c3,c4,h⟩ := Qdd h
     refine Wp.into (x := .normal) (mkS [(1,sL ctx1),(3,.ra 1 0),(5,.ra 2 0),(7,.ra 4 0),(8,.rs 21),(9,.rs 22),(10,I b3),(11,.ra 40 0),(13,sI c3),(22,.sl (List.map K0h t2.fKids)),(23,I (t2.fKids.length : Int)),(24,I b3)] [(1,K25 p0),(2,K1x t2),(3,.arr (List.map I (List.replicate (Int.toNat (ctx1.length : Int)) 0))),(4,.box [.nils,.rs 3,.rs 20,I 0,.nils]),(20,.arr (List.map K07 a9)),(21,.arr (List.map K14 b1)),(22,.arr (List.map K14 b2)),(40,K1x b5)]) ?_ ?_
     ·replace h := c4
      refine ic h (fun c5 h => ?_) fun c5 h => ?_
      ·obtain ⟨c6,c7,h⟩ := Qdd h
       refine rgs hc none [oN,oN,oN,oN,oN,some (.el (.ptr [sI c6.fty,sI c6.fneeds,.sl (List.map K07 c6.fkids),I c6.ffault,sI c6.fpath] 0)),oN,oN,oN,oN] [(1,sL ctx1),(3,.ra 1 0),(5,.ra 2 0),(7,.ra 4 0),(8,.rs 21),(9,.rs 22),(10,I b3),(11,.ra 40 0),(13,sI c6.fty),(22,.sl (List.map K0h t2.fKids)),(23,I (t2.fKids.length : Int)),(24,I b3)] (ab (Qdi (enc := K07) c7) (Qdh (enc := K07) (x := .ptr [sI c6.fty,sI c6.fneeds,.sl (List.map K07 c6.fkids),I c6.ffault,sI c6.fpath] 0) c7 (K0a c6)).2 tv) ?_
       obtain rfl := os h
       exact Qcz.mk
      refine sk ?_
      obtain rfl := os h
      exact Qcz.view (fun a w hv => SRx.renL [] (SRx.nilSL 13 hv (by kernel_rfl)) (by kernel_rfl) (by kernel_rfl) (by kernel_rfl))
     clear c4
     obtain ⟨c8,c9,h⟩ := Qdd h
     refine rg hc none [oN,oN,oN,some (.call (.osl (List.map K14 c8)) [] 41),oN] [(1,sL ctx1),(3,.ra 1 0),(5,.ra 2 0),(7,.ra 4 0),(8,.rs 21),(9,.rs 22),(10,I b3),(11,.ra 40 0),(12,.rs 41),(22,.sl (List.map K0h t2.fKids)),(23,I (t2.fKids.length : Int)),(24,I b3)] [(1,K25 p0),(2,K1x t2),(3,.arr (List.map I (List.replicate (Int.toNat (ctx1.length : Int)) 0))),(4,.box [.nils,.rs 3,.rs 20,I 0,.nils]),(20,.arr (List.map K07 a9)),(21,.arr (List.map K14 b1)),(22,.arr (List.map K14 b2)),(40,K1x b5),(41,.arr (List.map K14 c8))] (cq (Km0 _ _ c9) K7o tv) ?_
     obtain rfl := os h
     exact Qcz.mk
    refine sk ?_
    obtain rfl := os h
    exact Qcz.view (fun a w hv => SRx.renL [(41,42)] (SRx.nilTL 12 42 hv (by kernel_rfl) (by kernel_rfl)) (by kernel_rfl) (by kernel_rfl) (by kernel_rfl))
   clear c1
   refine sN ?_
   refine vz 41 (K18 c0) [(1,sL ctx1),(3,.ra 1 0),(5,.ra 2 0),(7,.ra 4 0),(8,.rs 21),(9,.rs 22),(10,I b3),(11,.ra 40 0),(12,sL c0),(22,.sl (List.map K0h t2.fKids)),(23,I (t2.fKids.length : Int)),(24,I b3)] [(1,K25 p0),(2,K1x t2),(3,.arr (List.map I (List.replicate (Int.toNat (ctx1.length : Int)) 0))),(4,.box [.nils,.rs 3,.rs 20,I 0,.nils]),(20,.arr (List.map K07 a9)),(21,.arr (List.map K14 b1)),(22,.arr (List.map K14 b2)),(40,K1x b5)] ?_
   obtain ⟨d0,d1,d2,d3,h⟩ := bq2 h
   refine rg hc (rx [[0],[0],[0],[0,1,2],[0,1,2,3],[0],[6],[7]]) [oN,oN,oN,some (.mk 44 false),some (.call (sL d0) [.tup []] 1),oN,oc (.ptr [sI d2.fty,sI d2.fneeds,.sl (List.map K07 d2.fkids),I d2.ffault,sI d2.fpath] 0),oN] [(1,sL ctx1),(3,.ra 1 0),(5,.ra 2 0),(7,.ra 4 0),(8,.rs 21),(9,.rs 22),(10,I b3),(12,sL c0),(14,.ptr [sI d2.fty,sI d2.fneeds,.sl (List.map K07 d2.fkids),I d2.ffault,sI d2.fpath] 0),(22,.sl (List.map K0h t2.fKids)),(23,I (t2.fKids.length : Int)),(24,I b3)] [(1,K25 p0),(2,K1x t2),(3,.arr (List.map I (List.replicate (Int.toNat (ctx1.length : Int)) 0))),(4,.box [.nils,.rs 3,.rs 20,I 0,.nils]),(20,.arr (List.map K07 a9)),(21,.arr (List.map K14 b1)),(22,.arr (List.map K14 b2))] (ab (Q71.args (A1 := [.sl (Q02 (List.map K1q [c0,ctx1]))]) (A2 := [.sl (List.map K1q [c0,ctx1])]) (by simp only [List.map_nil,K1u]) (Kme _ _ d1)) K7s (cq (impl_typertyp_ih _ _ d3) K7u tv)) ?_
   refine sN ?_
   refine K9m hc 5 [(1,sL ctx1),(3,.ra 1 0),(5,.ra 2 0),(7,.ra 4 0),(8,.rs 21),(9,.rs 22),(10,I b3),(12,sL c0),(14,.ptr [sI d2.fty,sI d2.fneeds,.sl (List.map K07 d2.fkids),I d2.ffault,sI d2.fpath] 0),(22,.sl (List.map K0h t2.fKids)),(23,I (t2.fKids.length : Int)),(24,I b3),(62,.bool (d2.ffault != 0))] ?_
   refine ic h (fun d4 h => ?_) fun d4 h => ?_
   ·obtain ⟨_,d5,h⟩ := Qdd h
    refine rs hc (rx [[0],[1],[2],[3],[0],[0,4],[0],[0,6],[0,6,7],[0,6,7,8],[0,4,5,6,7,8,9],[11],[12],[13]]) [oN,oN,oN,oN,oN,some (.mk 45 true),oN,oN,oN,oN,some (.eqv (.mk 46 true) ⟨[(73,.rs 46)],[(46,some (rI ([b3] ++ d2.fpath))),(45,none)],[46]⟩),oN,some (.new 47),oN] [(6,.ra 47 0)] [(46,rI ([b3] ++ d2.fpath)),(47,.box [.nils,.nils,.nils,I d2.ffault,.rs 46])] (ab (congrArg (fun z => (⟨[(73,.rs 46)],[(46,some (.arr z)),(45,none)],[46]⟩ : Wr)) ((List.map_append).symm : (List.map I [b3]) ++ (List.map I d2.fpath) = List.map I ([b3] ++ d2.fpath))) (Qdr (enc1 := I) (enc2 := I) (e1 := [b3]) (e2 := d2.fpath) (sz := 1) Qe0 Qe0 d5) tv) ?_
    refine vz 46 (Qe5 ([b3] ++ d2.fpath)) [(6,.ra 47 0)] [(47,.box [.nils,.nils,.nils,I d2.ffault,sI ([b3] ++ d2.fpath)])] ?_
    refine vb 47 [.nils,.nils,.nils,I d2.ffault,sI ([b3] ++ d2.fpath)] [(6,.ptr [.sl (List.map I []),.sl (List.map I []),.sl (List.map K07 []),I d2.ffault,sI ([b3] ++ d2.fpath)] 0)] [] ?_
    refine rt ?_
    obtain rfl := os h
    exact re [false]
   refine sk ?_
   refine sN ?_
   obtain ⟨d6,d7,h⟩ := Qdd h
   refine rss hc (rx [[0],[0],[0],[0],[0,3],[0,3,4],[0,3,4,5],[7],[8]]) [oN,oN,oN,oN,oN,oN,oN,oc (I d6),oN] [(1,sL ctx1),(3,.ra 1 0),(5,.ra 2 0),(7,.ra 4 0),(8,.rs 21),(9,.rs 22),(10,I b3),(12,sL c0),(14,.ptr [sI d2.fty,sI d2.fneeds,.sl (List.map K07 d2.fkids),I d2.ffault,sI d2.fpath] 0),(15,I d6),(22,.sl (List.map K0h t2.fKids)),(23,I (t2.fKids.length : Int)),(24,I b3)] (cq (Kmi _ _ d7) K7w tv) ?_
   refine K9m hc 2 [(1,sL ctx1),(3,.ra 1 0),(5,.ra 2 0),(7,.ra 4 0),(8,.rs 21),(9,.rs 22),(10,I b3),(12,sL c0),(14,.ptr [sI d2.fty,sI d2.fneeds,.sl (List.map K07 d2.fkids),I d2.ffault,sI d2.fpath] 0),(15,I d6),(22,.sl (List.map K0h t2.fKids)),(23,I (t2.fKids.length : Int)),(24,I b3),(85,.bool (d6 != 0))] ?_
   refine ic h (fun d8 h => ?_) fun d8 h => ?_
   ·refine rs hc none [oN,oN,some (.new 48),oN] [(6,.ra 48 0)] [(48,.box [.nils,.nils,.nils,I d6,.nils])] tv ?_
    refine vb 48 [.nils,.nils,.nils,I d6,.nils] [(6,.ptr [.sl (List.map I []),.sl (List.map I []),.sl (List.map K07 []),I d6,.sl (List.map I [])] 0)] [] ?_
    refine rt ?_
    obtain rfl := os h
    exact re [false]
   refine sk ?_
   refine sN ?_
   refine sN ?_
   obtain ⟨d9,e0,h⟩ := Qdd h
   refine Wp.into (x := .normal) (mkS [(1,sL ctx1),(3,.ra 1 0),(5,.ra 2 0),(7,.ra 4 0),(8,.rs 21),(9,.rs 22),(12,sL c0),(14,.ptr [sI d2.fty,sI d2.fneeds,.sl (List.map K07 d2.fkids),I d2.ffault,sI d2.fpath] 0),(22,.sl (List.map K0h t2.fKids)),(23,I (t2.fKids.length : Int)),(24,I b3),(115,.bool d9)] [(1,K25 p0),(2,K1x t2),(3,.arr (List.map I (List.replicate (Int.toNat (ctx1.length : Int)) 0))),(4,.box [.nils,.rs 3,.rs 20,I 0,.nils]),(20,.arr (List.map K07 a9)),(21,.arr (List.map K14 b1)),(22,.arr (List.map K14 b2))]) ?_ ?_
   ·replace h := e0
    rcases is h with ⟨e3,h⟩ | ⟨e3,h⟩
    ·rcases is h with ⟨e4,h⟩ | ⟨e4,h⟩
     ·obtain ⟨e5,e6,e7,e8,e9,f0,f1,f2,h⟩ := bq4 h
      refine rgs hc Kp5 [oN,oN,oN,oN,oN,oN,oT,oN,oN,oN,oN,oN,oN,oN,oN,oN,oN,some (.el (.ptr [sI e5.fty,sI e5.fneeds,.sl (List.map K07 e5.fkids),I e5.ffault,sI e5.fpath] 0)),oN,oN,oN,some (.call (.osl (List.map K14 e7)) [] 49),oN,some (.el (sI e9)),oc (.bool f1),oN,oT] [(1,sL ctx1),(3,.ra 1 0),(5,.ra 2 0),(7,.ra 4 0),(8,.rs 21),(9,.rs 22),(12,sL c0),(14,.ptr [sI d2.fty,sI d2.fneeds,.sl (List.map K07 d2.fkids),I d2.ffault,sI d2.fpath] 0),(22,.sl (List.map K0h t2.fKids)),(23,I (t2.fKids.length : Int)),(24,I b3),(115,.bool (!f1))] (ar 3 e3 (ar 9 e4 (ac (Qdi (enc := K07) e6) e4 (Qdh (enc := K07) (x := .ptr [sI e5.fty,sI e5.fneeds,.sl (List.map K07 e5.fkids),I e5.ffault,sI e5.fpath] 0) e6 (K0a e5)).2 (ar 4 e4 (cq (Klx _ _ e8) K7m (ad e4 (Qdi (enc := K14) f0) e4 (xL f0).2 (ai e4 (cq (Kmp _ _ f2) K7y (ar 2 e4 tv))))))))) ?_
      obtain rfl := os h
      exact Qcz.mk
     refine rgs hc Kp5 [oN,oN,oN,oN,oN,oN,oT,oN,o_,o_,o_,o_,o_,o_,o_,o_,o_,o_,o_,o_,o_,o_,o_,o_,o_,o_,oF] [(1,sL ctx1),(3,.ra 1 0),(5,.ra 2 0),(7,.ra 4 0),(8,.rs 21),(9,.rs 22),(12,sL c0),(14,.ptr [sI d2.fty,sI d2.fneeds,.sl (List.map K07 d2.fkids),I d2.ffault,sI d2.fpath] 0),(22,.sl (List.map K0h t2.fKids)),(23,I (t2.fKids.length : Int)),(24,I b3),(115,.bool false)] (ar 3 e3 (ar 18 (neT e4) (ai e4 tv))) ?_
     obtain rfl := os h
     exact Qcz.mk
    refine rgs hc Kp5 [oN,oN,oN,oN,o_,o_,oF,oN,o_,o_,o_,o_,o_,o_,o_,o_,o_,o_,o_,o_,o_,o_,o_,o_,o_,o_,oF] [(1,sL ctx1),(3,.ra 1 0),(5,.ra 2 0),(7,.ra 4 0),(8,.rs 21),(9,.rs 22),(12,sL c0),(14,.ptr [sI d2.fty,sI d2.fneeds,.sl (List.map K07 d2.fkids),I d2.ffault,sI d2.fpath] 0),(22,.sl (List.map K0h t2.fKids)),(23,I (t2.fKids.length : Int)),(24,I b3),(115,.bool false)] (ar 2 (neT e3) (ai e3 (ar 18 (neT (rfl : false = false)) (ai (rfl : false = false) tv)))) ?_
    obtain rfl := os h
    exact Qcz.mk
   clear e0
   refine ic h (fun f3 h => ?_) fun f3 h => ?_
   ·refine rs hc none [oN,some (.new 50),oN] [(6,.ra 50 0)] [(50,.box [.nils,.nils,.nils,I 3,.nils])] tv ?_
    refine vb 50 [.nils,.nils,.nils,I 3,.nils] [(6,.ptr [.sl (List.map I []),.sl (List.map I []),.sl (List.map K07 []),I 3,.sl (List.map I [])] 0)] [] ?_
    refine rt ?_
    obtain rfl := os h
    exact re [false]
   refine sk ?_
   obtain ⟨_,f4,h⟩ := Qdd h
   refine rs hc none [oN,oN,oN,oN,oN,oN,some (.eqv (.mk 51 false) ⟨[(124,.rs 51)],[(51,some (.arr (List.map K07 [d2])))],[51]⟩),some (.eqv (.mk 52 true) ⟨[(125,.rs 52)],[(52,some (.arr (List.map K07 (a9 ++ [d2])))),(20,none),(51,none)],[52]⟩),oN,oN,oN] [(1,sL ctx1),(3,.ra 1 0),(5,.ra 2 0),(7,.ra 4 0),(8,.rs 21),(9,.rs 22),(12,sL c0),(14,.ptr [sI d2.fty,sI d2.fneeds,.sl (List.map K07 d2.fkids),I d2.ffault,sI d2.fpath] 0),(22,.sl (List.map K0h t2.fKids)),(23,I (t2.fKids.length : Int)),(24,I b3)] [(1,K25 p0),(2,K1x t2),(3,.arr (List.map I (List.replicate (Int.toNat (ctx1.length : Int)) 0))),(4,.box [.nils,.rs 3,.rs 52,I 0,.nils]),(21,.arr (List.map K14 b1)),(22,.arr (List.map K14 b2)),(52,.arr (List.map K07 (a9 ++ [d2])))] (ac (congrArg (fun z => (⟨[(124,.rs 51)],[(51,some (.arr z))],[51]⟩ : Wr)) ((Qek (K0a d2) Qej) : [AV.ptr [sI d2.fty,sI d2.fneeds,.sl (List.map K07 d2.fkids),I d2.ffault,sI d2.fpath] 0] = List.map K07 [d2])) (congrArg (fun z => (⟨[(125,.rs 52)],[(52,some (.arr z)),(20,none),(51,none)],[52]⟩ : Wr)) ((List.map_append).symm : (List.map K07 a9) ++ (List.map K07 [d2]) = List.map K07 (a9 ++ [d2]))) (Qdr (enc1 := K07) (enc2 := K07) (e1 := a9) (e2 := [d2]) (sz := 1) K0d K0d f4) tv) ?_
   obtain ⟨f5,f6,_,f7,f8,f9,_,g0,h⟩ := bq4 h
   refine rg hc (rx [[0],[0],[0,1],[0,1,2],[0,1,2,3],[0],[0,5],[0,1,2,3,4,5,6],[0,1,2,3,4,5,6,7],[9],[0],[0],[0,11],[0,11,12],[0,11,12,13],[0],[0,15],[0,11,12,13,14,15,16],[0,11,12,13,14,15,16,17],[19],[20],[21]]) [oN,oN,oN,oN,oN,oN,some (.eqv (.no) ⟨[(134,I (c0.length : Int))],[],[]⟩),some (.eqv (.no) ⟨[(135,sI f5)],[],[]⟩),some (.mk 53 false),some (.eqv (.mk 54 true) ⟨[(137,.rs 54)],[(54,some (.arr (List.map K14 (b2 ++ [f5])))),(22,none),(53,none)],[54]⟩),oN,oN,oN,oN,oN,oN,some (.eqv (.no) ⟨[(144,I (c0.length : Int))],[],[]⟩),some (.eqv (.no) ⟨[(145,sI f8)],[],[]⟩),some (.mk 55 false),some (.eqv (.mk 56 true) ⟨[(147,.rs 56)],[(56,some (.arr (List.map K14 (b1 ++ [f8])))),(21,none),(55,none)],[56]⟩),oN,oN] [(1,sL ctx1),(3,.ra 1 0),(5,.ra 2 0),(7,.ra 4 0),(8,.rs 56),(9,.rs 54),(22,.sl (List.map K0h t2.fKids)),(23,I (t2.fKids.length : Int)),(24,I b3)] [(1,K25 p0),(2,K1x t2),(3,.arr (List.map I (List.replicate (Int.toNat (ctx1.length : Int)) 0))),(4,.box [.nils,.rs 3,.rs 52,I 0,.nils]),(52,.arr (List.map K07 (a9 ++ [d2]))),(54,.arr (List.map K14 (b2 ++ [f5]))),(56,.arr (List.map K14 (b1 ++ [f8])))] (ad (Qdj (d := 134) K14 c0) (Qdm (d := 135) I f6) (Qdl (enc := I) (sz := 1) Qdw f6) (congrArg (fun z => (⟨[(137,.rs 54)],[(54,some (.arr z)),(22,none),(53,none)],[54]⟩ : Wr)) ((List.map_append).symm : (List.map K14 b2) ++ (List.map K14 [f5]) = List.map K14 (b2 ++ [f5]))) (ad (Qdr (enc1 := K14) (enc2 := K14) (e1 := b2) (e2 := [f5]) (sz := 1) K17 K17 f7) (Qdj (d := 144) K14 c0) (Qdm (d := 145) I f9) (Qdl (enc := I) (sz := 1) Qdw f9) (ab (congrArg (fun z => (⟨[(147,.rs 56)],[(56,some (.arr z)),(21,none),(55,none)],[56]⟩ : Wr)) ((List.map_append).symm : (List.map K14 b1) ++ (List.map K14 [f8]) = List.map K14 (b1 ++ [f8]))) (Qdr (enc1 := K14) (enc2 := K14) (e1 := b1) (e2 := [f8]) (sz := 1) K17 K17 g0) tv))) ?_
   refine K9l hc 2 [(1,sL ctx1),(3,.ra 1 0),(5,.ra 2 0),(7,.ra 4 0),(8,.rs 56),(9,.rs 54),(22,.sl (List.map K0h t2.fKids)),(23,I (t2.fKids.length : Int)),(24,I (wr (b3 + 1)))] ?_
   refine Qcv ?_
   exact WpL.view (fun a w hv => SRx.renL [(20,52),(21,56),(22,54)] hv (by kernel_rfl) (by kernel_rfl) (by kernel_rfl)) (impl_typertyp_l0_ih _ _ h c hc)
  refine xt 0 ?_
  refine Qcp ?_
  refine Qcw ?_
  obtain rfl := os h
  exact iv []
theorem Kpc : ∀ p r,Kp7 p = some r → Kp9 p r := Kpb.1
theorem Kpd : ∀ p r,Kp8 p = some r → Kpa p r := Kpb.2
def Kpe (p : K00 × LL × K01) : Option (Option K04) :=
 match p with
 | (s0,ctx1,t2) =>
  ((
  (Kk8 s0) >>= fun a0 =>
  if a0 = true then
  (Kl4 (s0,ctx1)) >>= fun a1 =>
  if a1 = true then
  (Klo (s0,t2,(ctx1.length : Int))) >>= fun a2 =>
  some ((!a2))
  else
  some (true)
  else
  some (true)
  ) : Option (Bool)) >>= fun a3 =>
  if a3 = true then
  some none
  else
  (Kp7 ((K06.mk s0),ctx1,t2)) >>= fun a4 =>
  some (some a4)
def Kpf (p : K00 × LL × K01) (r : Option K04) : Prop :=
 match p with
 | (s0,ctx1,t2) => Q71 Tryz.prog 87 [K1w s0,sL ctx1,K1y t2] (K0b r) []
theorem Kpg : ∀ p r,Kpe p = some r → Kpf p r := by
 rintro ⟨s0,ctx1,t2⟩ r h
 unfold Kpe at h
 refine b0 Tryz.f87 B87 29 [(0,K1w s0),(1,sL ctx1),(2,K1y t2)] fun c hc => ?_
 refine rs hc none [some (.new 1),some (.new 2),oN] [(1,sL ctx1),(3,.ra 1 0),(5,.ra 2 0)] [(1,K1v s0),(2,K1x t2)] tv ?_
 refine sN ?_
 refine sN ?_
 obtain ⟨a0,a1,h⟩ := Qdd h
 refine Wp.into (x := .normal) (mkS [(1,sL ctx1),(3,.ra 1 0),(5,.ra 2 0),(23,.bool a0)] [(1,K1v s0),(2,K1x t2)]) ?_ ?_
 ·replace h := a1
  obtain ⟨a2,a3,h⟩ := Qdd h
  rcases is h with ⟨a4,h⟩ | ⟨a4,h⟩
  ·obtain ⟨a5,a6,h⟩ := Qdd h
   rcases is h with ⟨a7,h⟩ | ⟨a7,h⟩
   ·obtain ⟨a8,a9,h⟩ := Qdd h
    refine rgs hc none [oN,oc (.bool a2),oN,oN,oN,oN,oc (.bool a5),oN,oF,oN,oN,oN,oN,some (.eqv (.no) ⟨[(20,I (ctx1.length : Int))],[],[]⟩),oc (.bool a8),oN,oF] [(1,sL ctx1),(3,.ra 1 0),(5,.ra 2 0),(23,.bool (!a8))] (cq (Kka _ _ a3) K6v (ar 3 (nF a4) (cq (Kl6 _ _ a6) K7a (ar 2 (nF a4) (ar 4 (nF a7) (ab (Qdj (d := 20) K14 ctx1) (nF a7) (cq (Klq _ _ a9) K7k (ar 2 (nF a7) tv)))))))) ?_
    obtain rfl := os h
    exact Qcz.mk
   refine rgs hc none [oN,oc (.bool a2),oN,oN,oN,oN,oc (.bool a5),oN,oF,oN,o_,o_,o_,o_,o_,o_,oT] [(1,sL ctx1),(3,.ra 1 0),(5,.ra 2 0),(23,.bool true)] (cq (Kka _ _ a3) K6v (ar 3 (nF a4) (cq (Kl6 _ _ a6) K7a (ar 2 (nF a4) (ar 6 (neF (nT a7)) (ai (nT a7) tv)))))) ?_
   obtain rfl := os h
   exact Qcz.mk
  refine rgs hc none [oN,oc (.bool a2),oN,oN,o_,o_,o_,o_,oT,oN,o_,o_,o_,o_,o_,o_,oT] [(1,sL ctx1),(3,.ra 1 0),(5,.ra 2 0),(23,.bool true)] (cq (Kka _ _ a3) K6v (ar 4 (neF (nT a4)) (ai (nT a4) (ar 6 nf (ai tt tv))))) ?_
  obtain rfl := os h
  exact Qcz.mk
 clear a1
 refine ic h (fun b1 h => ?_) fun b1 h => ?_
 ·refine rs0 hc 1 [(6,.nilp)] [] ?_
  refine rt ?_
  obtain rfl := os h
  exact rq [false]
 refine sk ?_
 obtain ⟨b2,b3,h⟩ := Qdd h
 refine rs hc none [oN,oN,oN,oN,oc (.ptr [sI b2.fty,sI b2.fneeds,.sl (List.map K07 b2.fkids),I b2.ffault,sI b2.fpath] 0),oN] [(6,.ptr [sI b2.fty,sI b2.fneeds,.sl (List.map K07 b2.fkids),I b2.ffault,sI b2.fpath] 0)] [] (cq (Kpc _ _ b3) K7u tv) ?_
 refine rt ?_
 obtain rfl := os h
 exact rq [false]
def Kph (p : K00 × LL × K01) : Option ((List Int) × (List Int) × Bool) :=
 match p with
 | (s0,ctx1,t2) =>
  (Kpe (s0,ctx1,t2)) >>= fun a0 =>
  match a0 with
  | none =>
   some ([],[],false)
  | some a1 =>
   if (a1.ffault != 0) = true then
   some ([],[],false)
   else
   (Kmq a1.fty) >>= fun a2 =>
   (Kmq a1.fneeds) >>= fun a3 =>
   some (a2,a3,true)
def Kpi (p : K00 × LL × K01) (r : (List Int) × (List Int) × Bool) : Prop :=
 match p with
 | (s0,ctx1,t2) => Q71 Tryz.prog 23 [K1w s0,sL ctx1,K1y t2] (.tup [oI r.1,.osl (List.map I r.2.1),.bool r.2.2]) []
theorem Kpj : ∀ p r,Kph p = some r → Kpi p r := by
 rintro ⟨s0,ctx1,t2⟩ r h
 unfold Kph at h
 refine b0 Tryz.f23 B23 33 [(0,K1w s0),(1,sL ctx1),(2,K1y t2)] fun c hc => ?_
 refine rs hc none [some (.new 1),some (.new 2),oN,oN,oN] [(1,sL ctx1),(3,.ra 1 0),(5,.ra 2 0)] [(1,K1v s0),(2,K1x t2)] tv ?_
 refine sN ?_
 obtain ⟨a0,a1,h⟩ := Qdd h
 rcases a0 with _ | a2
 ·refine rg hc none [oN,oN,oN,oc (.nilp),oN] [(9,.nilp)] [] (cq (Kpg _ _ a1) K8q tv) ?_
  refine sN ?_
  refine rs hc none [oN,oN,oN,o_,o_,o_,o_,o_,oT] [(9,.nilp),(22,.bool true)] [] (ar 5 nf (ai tt tv)) ?_
  refine cT true (rfl : true = true) ?_
  refine rs0 hc 3 [(6,.nils),(7,.nils),(8,.bool false)] [] ?_
  refine rt ?_
  obtain rfl := os h
  exact rq [true,true,true]
 refine rg hc none [oN,oN,oN,oc (.ptr [sI a2.fty,sI a2.fneeds,.sl (List.map K07 a2.fkids),I a2.ffault,sI a2.fpath] 0),oN] [(9,.ptr [sI a2.fty,sI a2.fneeds,.sl (List.map K07 a2.fkids),I a2.ffault,sI a2.fpath] 0)] [] (cq (Kpg _ _ a1) K8q tv) ?_
 refine sN ?_
 refine rs hc none [oN,oN,oN,oN,oN,oN,oN,oN,oF] [(9,.ptr [sI a2.fty,sI a2.fneeds,.sl (List.map K07 a2.fkids),I a2.ffault,sI a2.fpath] 0),(22,.bool (a2.ffault != 0))] [] (ar 6 (rfl : false = false) tv) ?_
 refine ic h (fun a3 h => ?_) fun a3 h => ?_
 ·refine rs0 hc 3 [(6,.nils),(7,.nils),(8,.bool false)] [] ?_
  refine rt ?_
  obtain rfl := os h
  exact rq [true,true,true]
 refine sk ?_
 obtain ⟨a4,a5,a6,a7,h⟩ := bq2 h
 refine rs hc (rx [[0],[1],[2],[3],[4],[0],[0,5],[0,5,6],[0,5,6,7],[9],[10],[11],[12]]) [oN,oN,oN,oN,some (.call (oI a4) [] 3),oN,oN,oN,oN,some (.call (oI a6) [] 4),oN,oN,oN] [(6,.rs 3),(7,.rs 4),(8,.bool true)] [(3,rI a4),(4,rI a6)] (cq (Kms _ _ a5) K7z (cq (Kms _ _ a7) K7z tv)) ?_
 refine rt ?_
 obtain rfl := os h
 exact rq [true,true,true]
def Kpk (c : Ctx) : (Unit) ⊕ (Bool) → Exit → Q0a → Prop
 | .inl _ => Qcz c (.exit 0) (mkS [] [])
 | .inr r => Qd8 TIx Tryz.f64 [] (.bool r)
def Kpl (p : K00 × (List Int) × (List Int) × Int) : Option ((Unit) ⊕ (Bool)) :=
 match p with
 | (s0,budgets2,a0,a1) =>
  if (decide (a1 < (budgets2.length : Int))) = true then
  (idx budgets2 a1) >>= fun a2 =>
  ((
  (Kiw (s0,a2)) >>= fun a3 =>
  if a3 = true then
  (idx a0 a1) >>= fun a4 =>
  (Kj5 (s0,a4,a2)) >>= fun a5 =>
  some ((!a5))
  else
  some (true)
  ) : Option (Bool)) >>= fun a6 =>
  if a6 = true then
  some (.inr false)
  else
  Kpl (s0,budgets2,a0,(wr (a1 + 1)))
  else
  some (.inl ())
 partial_fixpoint
def Kpm (p : K00 × (List Int) × (List Int) × Int) (fl : (Unit) ⊕ (Bool)) : Prop :=
 match p with
 | (s0,budgets2,a0,a1) => ∀ c : Ctx,c.nt = 61 → WpL Tryz.prog c (cl (cl (cr (cl (cr (cr (cr B64))))))) (Kpk c fl) (mkS [(5,.ra 1 0),(12,.rs 4),(39,sI budgets2),(40,I (budgets2.length : Int)),(41,I a1)] [(1,K1v s0),(4,rI a0)])
theorem Kpn : ∀ p r,Kpl p = some r → Kpm p r := by
 refine Kpl.partial_correctness Kpm ?_
 rintro impl_Fits_l0_f impl_Fits_l0_ih ⟨s0,budgets2,a0,a1⟩ r h
 intro c hc
 refine WpL.step ?_
 refine K9m hc 1 [(5,.ra 1 0),(12,.rs 4),(39,sI budgets2),(40,I (budgets2.length : Int)),(41,I a1),(42,.bool (decide (a1 < (budgets2.length : Int))))] ?_
 refine sN ?_
 refine ic h (fun a2 h => ?_) fun a2 h => ?_
 ·refine sk ?_
  refine sN ?_
  refine bk 1 ?_
  obtain ⟨a3,a4,h⟩ := Qdd h
  refine rss hc none [oN,some (.el (I a3)),oN,oN,oN] [(5,.ra 1 0),(12,.rs 4),(14,I a1),(15,I a3),(39,sI budgets2),(40,I (budgets2.length : Int)),(41,I a1)] (ai (ix a4) tv) ?_
  refine sN ?_
  obtain ⟨a5,a6,h⟩ := Qdd h
  refine Wp.into (x := .normal) (mkS [(5,.ra 1 0),(12,.rs 4),(39,sI budgets2),(40,I (budgets2.length : Int)),(41,I a1),(59,.bool a5)] [(1,K1v s0),(4,rI a0)]) ?_ ?_
  ·replace h := a6
   obtain ⟨a7,a8,h⟩ := Qdd h
   rcases is h with ⟨a9,h⟩ | ⟨a9,h⟩
   ·obtain ⟨b1,b2,b3,b4,h⟩ := bq2 h
    refine rgs hc Kp6 [oN,oN,oc (.bool a7),oN,oN,oN,oN,oN,oN,some (.el (I b1)),oN,oc (.bool b3),oN,oF] [(5,.ra 1 0),(12,.rs 4),(39,sI budgets2),(40,I (budgets2.length : Int)),(41,I a1),(59,.bool (!b3))] (cq (Kiy _ _ a8) K6l (ar 4 (nF a9) (ac (Qdi (enc := I) b2) (nF a9) (ix b2).2 (ar 2 (nF a9) (cq (Kj7 _ _ b4) K6q (ar 2 (nF a9) tv)))))) ?_
    obtain rfl := os h
    exact Qcz.mk
   refine rgs hc Kp6 [oN,oN,oc (.bool a7),oN,oN,o_,o_,o_,o_,o_,o_,o_,o_,oT] [(5,.ra 1 0),(12,.rs 4),(39,sI budgets2),(40,I (budgets2.length : Int)),(41,I a1),(59,.bool true)] (cq (Kiy _ _ a8) K6l (ar 8 (neF (nT a9)) (ai (nT a9) tv))) ?_
   obtain rfl := os h
   exact Qcz.mk
  clear a6
  refine ic h (fun b5 h => ?_) fun b5 h => ?_
  ·refine rs0 hc 1 [(10,.bool false)] [] ?_
   refine rt ?_
   obtain rfl := os h
   exact re [true]
  refine sk ?_
  refine K9l hc 2 [(5,.ra 1 0),(12,.rs 4),(39,sI budgets2),(40,I (budgets2.length : Int)),(41,I (wr (a1 + 1)))] ?_
  refine Qcv ?_
  exact (impl_Fits_l0_ih _ _ h c hc)
 refine xt 0 ?_
 refine Qcp ?_
 refine Qcw ?_
 obtain rfl := os h
 exact iv []
def Kpo (p : K00 × LL × (List Int) × K01 × (List Int)) : Option (Bool) :=
 match p with
 | (s0,ctx1,budgets2,t3,ty4) =>
  (Kph (s0,ctx1,t3)) >>= fun (a0,a1,a2) =>
  ((
  if a2 = true then
   (Kmn (a0,ty4)) >>= fun a3 =>
   if a3 = true then
   some (((budgets2.length : Int) != (ctx1.length : Int)))
   else
   some (true)
  else
   some (true)
  ) : Option (Bool)) >>= fun a4 =>
  if a4 = true then
  some false
  else
  (Kpl (s0,budgets2,a1,0)) >>= fun fl => match fl with
  | .inl () =>
   some true
  | .inr r =>
   some r
def Kpp (p : K00 × LL × (List Int) × K01 × (List Int)) (r : Bool) : Prop :=
 match p with
 | (s0,ctx1,budgets2,t3,ty4) => Q71 Tryz.prog 64 [K1w s0,sL ctx1,sI budgets2,K1y t3,sI ty4] (.bool r) []
theorem Kpq : ∀ p r,Kpo p = some r → Kpp p r := by
 rintro ⟨s0,ctx1,budgets2,t3,ty4⟩ r h
 unfold Kpo at h
 refine b0 Tryz.f64 B64 61 [(0,K1w s0),(1,sL ctx1),(2,sI budgets2),(3,K1y t3),(4,sI ty4)] fun c hc => ?_
 refine rs hc none [some (.new 1),some (.new 2),oN] [(1,sL ctx1),(2,sI budgets2),(4,sI ty4),(5,.ra 1 0),(8,.ra 2 0)] [(1,K1v s0),(2,K1x t3)] tv ?_
 obtain ⟨⟨a0,a1,a2⟩,a3,h⟩ := Qdd h
 refine rs hc none [oN,oN,oN,some (.call (.tup [oI a0,oI a1,.bool a2]) [] 3),oN,oN,oN,oN,oN,oN,oN] [(1,sL ctx1),(2,sI budgets2),(4,sI ty4),(5,.ra 1 0),(11,.rs 3),(12,.rs 4),(13,.bool a2)] [(1,K1v s0),(3,rI a0),(4,rI a1)] (cq (Kpj _ _ a3) K8r tv) ?_
 refine sN ?_
 refine sN ?_
 obtain ⟨a4,a5,h⟩ := Qdd h
 refine Wp.into (x := .normal) (mkS [(2,sI budgets2),(5,.ra 1 0),(12,.rs 4),(38,.bool a4)] [(1,K1v s0),(4,rI a1)]) ?_ ?_
 ·replace h := a5
  rcases is h with ⟨a6,h⟩ | ⟨a6,h⟩
  ·obtain ⟨a7,a8,h⟩ := Qdd h
   rcases is h with ⟨a9,h⟩ | ⟨a9,h⟩
   ·refine rg hc none [oN,oN,oN,oN,oN,oc (.bool a7),oN,oF,oN,oN,some (.eqv (.no) ⟨[(34,I (budgets2.length : Int))],[],[]⟩),oN,some (.eqv (.no) ⟨[(36,I (ctx1.length : Int))],[],[]⟩),oN,oF] [(2,sI budgets2),(5,.ra 1 0),(12,.rs 4),(38,.bool ((budgets2.length : Int) != (ctx1.length : Int)))] [(1,K1v s0),(4,rI a1)] (ar 3 (nF a6) (ac (Q71.args (A1 := [.sl (Q02 (List.map I a0)),sI ty4]) (A2 := [sI a0,sI ty4]) (by simp only [List.map_nil,Qe5]) (Kmp _ _ a8)) K7y (Or.inr rfl : ([3] : List Nat) = [] ∨ noSh (.bool a7) = true) (ar 2 (nF a6) (ar 2 (nF a9) (ai (Qdj (d := 34) I budgets2) (ar 2 (nF a9) (ai (Qdj (d := 36) K14 ctx1) (ar 2 (nF a9) tv)))))))) ?_
    obtain rfl := os h
    exact Qcz.mk
   refine rg hc none [oN,oN,oN,oN,oN,oc (.bool a7),oN,oF,oN,o_,o_,o_,o_,o_,oT] [(2,sI budgets2),(5,.ra 1 0),(12,.rs 4),(38,.bool true)] [(1,K1v s0),(4,rI a1)] (ar 3 (nF a6) (ac (Q71.args (A1 := [.sl (Q02 (List.map I a0)),sI ty4]) (A2 := [sI a0,sI ty4]) (by simp only [List.map_nil,Qe5]) (Kmp _ _ a8)) K7y (Or.inr rfl : ([3] : List Nat) = [] ∨ noSh (.bool a7) = true) (ar 2 (nF a6) (ar 5 (neF (nT a9)) (ai (nT a9) tv))))) ?_
   obtain rfl := os h
   exact Qcz.mk
  refine rg hc none [oN,oN,oN,o_,o_,o_,o_,oT,oN,o_,o_,o_,o_,o_,oT] [(2,sI budgets2),(5,.ra 1 0),(12,.rs 4),(38,.bool true)] [(1,K1v s0),(4,rI a1)] (ar 4 (neF (nT a6)) (ai (nT a6) (ar 5 nf (ai tt tv)))) ?_
  obtain rfl := os h
  exact Qcz.mk
 clear a5
 refine ic h (fun b1 h => ?_) fun b1 h => ?_
 ·refine rs0 hc 1 [(10,.bool false)] [] ?_
  refine rt ?_
  obtain rfl := os h
  exact rq [true]
 refine sk ?_
 refine sN ?_
 refine rss hc none [oN,some (.eqv (.no) ⟨[(40,I (budgets2.length : Int))],[],[]⟩),oN] [(5,.ra 1 0),(12,.rs 4),(39,sI budgets2),(40,I (budgets2.length : Int)),(41,I 0)] (ai (Qdj (d := 40) I budgets2) tv) ?_
 refine bk 0 ?_
 obtain ⟨fl,b2,h⟩ := Qdd h
 have hL := Kpn _ _ b2 c hc
 refine lp ?_
 rcases fl with ⟨⟩ | r
 ·refine WpL.into (e := (.exit 0)) (mkS [] []) hL ?_
  refine Qcr ?_
  refine rs0 hc 1 [(10,.bool true)] [] ?_
  refine rt ?_
  obtain rfl := os h
  exact rq [true]
 refine WpL.mono hL ?_
 rintro _ _ ⟨rfl,hfin⟩
 obtain rfl := os h
 exact ⟨.inl rfl,hfin⟩
def Kpr (p : (List Int) × Int) : Option (Int) :=
 match p with
 | (code0,i1) =>
  if (decide (i1 < (code0.length : Int))) = true then
  (idx code0 i1) >>= fun a0 =>
  some (wr a0)
  else
  some (Int.tmod (wr ((wr (i1 * 7)) + (code0.length : Int))) 256)
def Kps (p : (List Int) × Int) (r : Int) : Prop :=
 match p with
 | (code0,i1) => Q71 Tryz.prog 48 [.sl (List.map U8 code0),I i1] (I r) []
theorem Kpt : ∀ p r,Kpr p = some r → Kps p r := by
 rintro ⟨code0,i1⟩ r h
 unfold Kpr at h
 refine b0 Tryz.f48 B48 20 [(0,.sl (List.map U8 code0)),(1,I i1)] fun c hc => ?_
 refine rs0 hc 1 [(0,.sl (List.map U8 code0)),(1,I i1)] [] ?_
 refine sN ?_
 refine rs hc none [oN,oN,some (.eqv (.no) ⟨[(7,I (code0.length : Int))],[],[]⟩),oN] [(0,.sl (List.map U8 code0)),(1,I i1),(8,.bool (decide (i1 < (code0.length : Int))))] [] (ai (Qdj (d := 7) U8 code0) tv) ?_
 refine ic h (fun a0 h => ?_) fun a0 h => ?_
 ·obtain ⟨a1,a2,h⟩ := Qdd h
  refine rs hc none [oN,oN,some (.el (.int .u8 a1)),oN,oN,oN] [(4,I (wr a1))] [] (ai (Qdh (enc := U8) (x := .int .u8 a1) a2 (Qdt a1)) tv) ?_
  refine rt ?_
  obtain rfl := os h
  exact rq [true]
 refine sk ?_
 refine rs hc none [oN,oN,oN,some (.eqv (.no) ⟨[(17,I (code0.length : Int))],[],[]⟩),oN,oN,oN] [(4,I (Int.tmod (wr ((wr (i1 * 7)) + (code0.length : Int))) 256))] [] (ab (Qdj (d := 17) U8 code0) ((by decide) : (256 : Int) ≠ 0) tv) ?_
 refine rt ?_
 obtain rfl := os h
 exact rq [true]
def Kpu (p : K00 × Int × Int) : Option (Bool) :=
 match p with
 | (s0,a1,b2) =>
  ((
  (Kiw (s0,a1)) >>= fun a0 =>
  if a0 = true then
  (Kiw (s0,b2)) >>= fun a2 =>
  if a2 = true then
  (Kk8 s0) >>= fun a3 =>
  some (a3)
  else
  some (false)
  else
  some (false)
  ) : Option (Bool)) >>= fun a4 =>
  some a4
def Kpv (p : K00 × Int × Int) (r : Bool) : Prop :=
 match p with
 | (s0,a1,b2) => Q71 Tryz.prog 138 [K1w s0,I a1,I b2] (.bool r) []
theorem Kpw : ∀ p r,Kpu p = some r → Kpv p r := by
 rintro ⟨s0,a1,b2⟩ r h
 unfold Kpu at h
 refine b0 Tryz.f138 K8u 19 [(0,K1w s0),(1,I a1),(2,I b2)] fun c hc => ?_
 refine rs hc none [some (.new 1),oN] [(1,I a1),(2,I b2),(3,.ra 1 0)] [(1,K1v s0)] tv ?_
 refine sN ?_
 obtain ⟨a0,a2,h⟩ := Qdd h
 refine Wp.into (x := .normal) (mkS [(6,.bool a0)] []) ?_ ?_
 ·replace h := a2
  obtain ⟨a3,a4,h⟩ := Qdd h
  rcases is h with ⟨a5,h⟩ | ⟨a5,h⟩
  ·obtain ⟨a6,a7,h⟩ := Qdd h
   rcases is h with ⟨a8,h⟩ | ⟨a8,h⟩
   ·obtain ⟨a9,b1,h⟩ := Qdd h
    refine rg hc none [oN,oN,oc (.bool a3),oN,oN,oN,oc (.bool a6),oT,oN,oN,oc (.bool a9),oT,oN] [(6,.bool a9)] [] (cq (Kiy _ _ a4) K6l (ar 3 a5 (cq (Kiy _ _ a7) K6l (ai a5 (ar 2 a8 (cq (Kka _ _ b1) K6v (ai a8 tv))))))) ?_
    obtain rfl := os h
    exact Qcz.mk
   refine rg hc none [oN,oN,oc (.bool a3),oN,oN,oN,oc (.bool a6),oT,oN,o_,o_,oF,oN] [(6,.bool false)] [] (cq (Kiy _ _ a4) K6l (ar 3 a5 (cq (Kiy _ _ a7) K6l (ai a5 (ar 2 (neT a8) (ai a8 tv)))))) ?_
   obtain rfl := os h
   exact Qcz.mk
  refine rg hc none [oN,oN,oc (.bool a3),oN,o_,o_,o_,oF,oN,o_,o_,oF,oN] [(6,.bool false)] [] (cq (Kiy _ _ a4) K6l (ar 3 (neT a5) (ai a5 (ar 2 (neT (rfl : false = false)) (ai (rfl : false = false) tv))))) ?_
  obtain rfl := os h
  exact Qcz.mk
 clear a2
 refine rt ?_
 obtain rfl := os h
 exact rq [true]
def Kpx (p : K00 × Int × Int) : Option (Int) :=
 match p with
 | (s0,a1,b2) =>
  (Kpu (s0,a1,b2)) >>= fun a0 =>
  if a0 = true then
  (Kjm (s0,a1,b2)) >>= fun a2 =>
  some a2
  else
  some (-1)
def Kpy (p : K00 × Int × Int) (r : Int) : Prop :=
 match p with
 | (s0,a1,b2) => Q71 Tryz.prog 66 [K1w s0,I a1,I b2] (I r) []
theorem Kpz : ∀ p r,Kpx p = some r → Kpy p r := by
 rintro ⟨s0,a1,b2⟩ r h
 unfold Kpx at h
 refine b0 Tryz.f66 B66 16 [(0,K1w s0),(1,I a1),(2,I b2)] fun c hc => ?_
 refine rs hc none [some (.new 1),oN] [(1,I a1),(2,I b2),(3,.ra 1 0)] [(1,K1v s0)] tv ?_
 refine sN ?_
 obtain ⟨a0,a2,h⟩ := Qdd h
 refine rss hc none [oN,oN,oN,oc (.bool a0),oN] [(1,I a1),(2,I b2),(3,.ra 1 0),(11,.bool (!a0))] (cq (Kpw _ _ a2) K8v tv) ?_
 rcases is h with ⟨a3,h⟩ | ⟨a3,h⟩
 ·refine cF (!a0) (nF a3) ?_
  refine sk ?_
  obtain ⟨a4,a5,h⟩ := Qdd h
  refine rs hc none [oN,oN,oN,oc (I a4),oN] [(6,I a4)] [] (cq (Kjo _ _ a5) K6s tv) ?_
  refine rt ?_
  obtain rfl := os h
  exact rq [true]
 refine cT (!a0) (nT a3) ?_
 refine rs0 hc 1 [(6,I (-1))] [] ?_
 refine rt ?_
 obtain rfl := os h
 exact rq [true]
def Kq0 : Option (List (List Nat)) := rx [[0],[0],[2],[3],[4],[5],[6],[7],[7],[9],[10],[7],[7,11],[13],[14],[15]]
def Kq1 : Option (List (List Nat)) := rx [[0],[0],[2],[3],[0],[0,4],[0,4,5],[7],[8],[9],[10],[10],[10],[10,11,12],[10,11,12,13],[10],[10],[10,15,16],[10,15,16,17],[19],[20],[21]]
def Kq2 (ty0 : (List Int)) : Option (Bool) :=
 ((
 if (decide ((ty0.length : Int) ≤ 40)) = true then
 (Keq (ty0,0)) >>= fun a0 =>
 if (a0 == (ty0.length : Int)) = true then
 some ((decide ((ty0.length : Int) > 0)))
 else
 some (false)
 else
 some (false)
 ) : Option (Bool)) >>= fun a1 =>
 some a1
def Kq3 (ty0 : (List Int)) (r : Bool) : Prop :=
 Q71 Tryz.prog 81 [sI ty0] (.bool r) []
theorem Kq4 : ∀ p r,Kq2 p = some r → Kq3 p r := by
 rintro ty0 r h
 unfold Kq2 at h
 refine b0 Tryz.f81 B81 18 [(0,sI ty0)] fun c hc => ?_
 refine rs0 hc 1 [(0,sI ty0)] [] ?_
 refine sN ?_
 obtain ⟨a0,a1,h⟩ := Qdd h
 refine Wp.into (x := .normal) (mkS [(2,.bool a0)] []) ?_ ?_
 ·replace h := a1
  rcases is h with ⟨a2,h⟩ | ⟨a2,h⟩
  ·obtain ⟨a3,a4,h⟩ := Qdd h
   rcases is h with ⟨a5,h⟩ | ⟨a5,h⟩
   ·refine rg hc none [oN,some (.eqv (.no) ⟨[(4,I (ty0.length : Int))],[],[]⟩),oN,oN,oN,oc (I a3),oN,some (.eqv (.no) ⟨[(10,I (ty0.length : Int))],[],[]⟩),oN,oT,oN,oN,some (.eqv (.no) ⟨[(15,I (ty0.length : Int))],[],[]⟩),oN,oT,oN] [(2,.bool (decide ((ty0.length : Int) > 0)))] [] (ai (Qdj (d := 4) I ty0) (ar 2 a2 (cq (Kes _ _ a4) K52 (ar 2 a2 (ai (Qdj (d := 10) I ty0) (ar 2 a2 (ar 2 a5 (ai (Qdj (d := 15) I ty0) (ar 2 a5 tv))))))))) ?_
    obtain rfl := os h
    exact Qcz.mk
   refine rg hc none [oN,some (.eqv (.no) ⟨[(4,I (ty0.length : Int))],[],[]⟩),oN,oN,oN,oc (I a3),oN,some (.eqv (.no) ⟨[(10,I (ty0.length : Int))],[],[]⟩),oN,oT,oN,o_,o_,o_,oF,oN] [(2,.bool false)] [] (ai (Qdj (d := 4) I ty0) (ar 2 a2 (cq (Kes _ _ a4) K52 (ar 2 a2 (ai (Qdj (d := 10) I ty0) (ar 2 a2 (ar 3 (neT a5) (ai a5 tv)))))))) ?_
   obtain rfl := os h
   exact Qcz.mk
  refine rg hc none [oN,some (.eqv (.no) ⟨[(4,I (ty0.length : Int))],[],[]⟩),oN,oN,o_,o_,o_,o_,o_,oF,oN,o_,o_,o_,oF,oN] [(2,.bool false)] [] (ai (Qdj (d := 4) I ty0) (ar 5 (neT a2) (ai a2 (ar 3 (neT (rfl : false = false)) (ai (rfl : false = false) tv))))) ?_
  obtain rfl := os h
  exact Qcz.mk
 clear a1
 refine rt ?_
 obtain rfl := os h
 exact rq [true]
def Kq5 (c : Ctx) (ty0 : List Int) (size1 : Int) (closed2 : Bool) (a0 : Int) : (Unit) ⊕ (Bool) → Exit → Q0a → Prop
 | .inl _ => Qcz c .normal (mkS [(0,sI ty0),(1,I size1),(2,.bool closed2),(7,I a0)] [])
 | .inr r => Qd8 TIx Tryz.f82 [] (.bool r)
def Kq6 (c : Ctx) : (Unit) ⊕ (Bool) → Exit → Q0a → Prop
 | .inl _ => Qcz c (.exit 0) (mkS [] [])
 | .inr r => Qd8 TIx Tryz.f82 [] (.bool r)
def Kq7 (p : (List Int) × Int × Bool × Int) : Option ((Unit) ⊕ (Bool)) :=
 match p with
 | (ty0,size1,closed2,a0) =>
  if (decide (a0 < (ty0.length : Int))) = true then
  ((
   (idx ty0 a0) >>= fun a1 =>
   (Kej a1) >>= fun a2 =>
   if (decide (a2 > 0)) = true then
   (idx ty0 a0) >>= fun a3 =>
   some ((decide (a3 > 2)))
   else
   some (false)
  ) : Option (Bool)) >>= fun a4 =>
  ((
   if a4 = true then
   (idx ty0 a0) >>= fun a5 =>
   (Kez a5) >>= fun a6 =>
   ((
   if (decide (a6 ≥ size1)) = true then
   some (true)
   else
   if closed2 = true then
   some ((decide (a6 < 0)))
   else
   some (false)
   ) : Option (Bool)) >>= fun a7 =>
   if a7 = true then
   some (.inr false)
   else
   some (.inl ())
   else
   some (.inl ())) : Option ((Unit) ⊕ (Bool))) >>= fun fl => match fl with
  | .inl () =>
   Kq7 (ty0,size1,closed2,(wr (a0 + 1)))
  | .inr r =>
   some (.inr r)
  else
  some (.inl ())
 partial_fixpoint
def Kq8 (p : (List Int) × Int × Bool × Int) (fl : (Unit) ⊕ (Bool)) : Prop :=
 match p with
 | (ty0,size1,closed2,a0) => ∀ c : Ctx,c.nt = 43 → WpL Tryz.prog c (cl (cl (cr (cl (cr B82))))) (Kq6 c fl) (mkS [(0,sI ty0),(1,I size1),(2,.bool closed2),(7,I a0)] [])
theorem Kq9 : ∀ p r,Kq7 p = some r → Kq8 p r := by
 refine Kq7.partial_correctness Kq8 ?_
 rintro spec_l2Graded_l0_f spec_l2Graded_l0_ih ⟨ty0,size1,closed2,a0⟩ r h
 intro c hc
 refine WpL.step ?_
 refine sN ?_
 refine rs hc none [oN,oN,some (.eqv (.no) ⟨[(11,I (ty0.length : Int))],[],[]⟩),oN] [(0,sI ty0),(1,I size1),(2,.bool closed2),(7,I a0),(12,.bool (decide (a0 < (ty0.length : Int))))] [] (ai (Qdj (d := 11) I ty0) tv) ?_
 refine ic h (fun a1 h => ?_) fun a1 h => ?_
 ·refine sk ?_
  refine sN ?_
  refine bk 1 ?_
  refine sN ?_
  obtain ⟨a2,a3,h⟩ := Qdd h
  refine Wp.into (x := .normal) (mkS [(0,sI ty0),(1,I size1),(2,.bool closed2),(7,I a0),(27,.bool a2)] []) ?_ ?_
  ·replace h := a3
   obtain ⟨a4,a5,a6,a7,h⟩ := bq2 h
   rcases is h with ⟨a8,h⟩ | ⟨a8,h⟩
   ·obtain ⟨a9,b1,h⟩ := Qdd h
    refine rg hc none [oN,oN,some (.el (I a4)),oN,oc (I a6),oN,oN,oN,oN,some (.el (I a9)),oN,oN,oT] [(0,sI ty0),(1,I size1),(2,.bool closed2),(7,I a0),(27,.bool (decide (a9 > 2)))] [] (ai (ix a5) (cq (Kel _ _ a7) K50 (ar 3 a8 (ai (ix b1) (ar 3 a8 tv))))) ?_
    obtain rfl := os h
    exact Qcz.mk
   refine rg hc none [oN,oN,some (.el (I a4)),oN,oc (I a6),oN,oN,o_,o_,o_,o_,o_,oF] [(0,sI ty0),(1,I size1),(2,.bool closed2),(7,I a0),(27,.bool false)] [] (ai (ix a5) (cq (Kel _ _ a7) K50 (ar 5 (neT a8) (ai a8 tv)))) ?_
   obtain rfl := os h
   exact Qcz.mk
  clear a3
  obtain ⟨fl,b2,h⟩ := Qdd h
  refine flw (Kq5 c ty0 size1 closed2 a0 fl) ?_ (fun hF => ?_)
  ·replace h := b2
   refine ic h (fun b3 h => ?_) fun b3 h => ?_
   ·obtain ⟨b4,b5,b6,b7,h⟩ := bq2 h
    refine rs hc none [oN,oN,some (.el (I b4)),oN,oc (I b6),oN] [(0,sI ty0),(1,I size1),(2,.bool closed2),(7,I a0),(8,I b6)] [] (ai (ix b5) (cq (Kf1 _ _ b7) K58 tv)) ?_
    refine sN ?_
    obtain ⟨b8,b9,h⟩ := Qdd h
    refine Wp.into (x := .normal) (mkS [(0,sI ty0),(1,I size1),(2,.bool closed2),(7,I a0),(42,.bool b8)] []) ?_ ?_
    ·replace h := b9
     rcases is h with ⟨c0,h⟩ | ⟨c0,h⟩
     ·refine rg hc none [oN,oN,oN,oN,o_,o_,o_,o_,o_,oT] [(0,sI ty0),(1,I size1),(2,.bool closed2),(7,I a0),(42,.bool true)] [] (ar 3 (neF c0) (ai c0 tv)) ?_
      obtain rfl := os h
      exact Qcz.mk
     rcases is h with ⟨c1,h⟩ | ⟨c1,h⟩
     ·refine rg hc none [oN,oN,oN,oN,oN,oN,oN,oN,oT,oF] [(0,sI ty0),(1,I size1),(2,.bool closed2),(7,I a0),(42,.bool (decide (b6 < 0)))] [] (ar 2 c0 (ar 2 c1 (ac c0 c1 c0 tv))) ?_
      obtain rfl := os h
      exact Qcz.mk
     refine rg hc none [oN,oN,oN,oN,oN,oN,o_,o_,oF,oF] [(0,sI ty0),(1,I size1),(2,.bool closed2),(7,I a0),(42,.bool false)] [] (ar 2 c0 (ar 2 (neT c1) (ac c0 c1 c0 tv))) ?_
     obtain rfl := os h
     exact Qcz.mk
    clear b9
    refine ic h (fun c2 h => ?_) fun c2 h => ?_
    ·refine rs0 hc 1 [(6,.bool false)] [] ?_
     refine rt ?_
     obtain rfl := os h
     exact re [true]
    refine sk ?_
    obtain rfl := os h
    exact iv []
   refine sk ?_
   obtain rfl := os h
   exact iv []
  rcases fl with ⟨⟩ | r
  ·refine Wp.into (x := .normal) (mkS [(0,sI ty0),(1,I size1),(2,.bool closed2),(7,I a0)] []) hF ?_
   refine rg0 hc 3 [(0,sI ty0),(1,I size1),(2,.bool closed2),(7,I (wr (a0 + 1)))] [] ?_
   refine Qcv ?_
   exact (spec_l2Graded_l0_ih _ _ h c hc)
  refine Wp.mono hF ?_
  rintro _ _ ⟨rfl,hfin⟩
  obtain rfl := os h
  exact ⟨rfl,hfin⟩
 refine xt 0 ?_
 refine Qcp ?_
 refine Qcw ?_
 obtain rfl := os h
 exact iv []
def Kqa (p : (List Int) × Int × Bool) : Option (Bool) :=
 match p with
 | (ty0,size1,closed2) =>
  (Kq7 (ty0,size1,closed2,0)) >>= fun fl => match fl with
  | .inl () =>
   some true
  | .inr r =>
   some r
def Kqb (p : (List Int) × Int × Bool) (r : Bool) : Prop :=
 match p with
 | (ty0,size1,closed2) => Q71 Tryz.prog 82 [sI ty0,I size1,.bool closed2] (.bool r) []
theorem Kqc : ∀ p r,Kqa p = some r → Kqb p r := by
 rintro ⟨ty0,size1,closed2⟩ r h
 unfold Kqa at h
 refine b0 Tryz.f82 B82 43 [(0,sI ty0),(1,I size1),(2,.bool closed2)] fun c hc => ?_
 refine rs0 hc 1 [(0,sI ty0),(1,I size1),(2,.bool closed2)] [] ?_
 refine sN ?_
 refine rs0 hc 1 [(0,sI ty0),(1,I size1),(2,.bool closed2),(7,I 0)] [] ?_
 refine bk 0 ?_
 obtain ⟨fl,a0,h⟩ := Qdd h
 have hL := Kq9 _ _ a0 c hc
 refine lp ?_
 rcases fl with ⟨⟩ | r
 ·refine WpL.into (e := (.exit 0)) (mkS [] []) hL ?_
  refine Qcr ?_
  refine rs0 hc 1 [(6,.bool true)] [] ?_
  refine rt ?_
  obtain rfl := os h
  exact rq [true]
 refine WpL.mono hL ?_
 rintro _ _ ⟨rfl,hfin⟩
 obtain rfl := os h
 exact ⟨.inl rfl,hfin⟩
def Kqd (c : Ctx) : (Unit) ⊕ (Bool) → Exit → Q0a → Prop
 | .inl _ => Qcz c (.exit 0) (mkS [] [])
 | .inr r => Qd8 TIx Tryz.f240 [] (.bool r)
def Kqe (p : K00 × LL × Int) : Option ((Unit) ⊕ (Bool)) :=
 match p with
 | (s0,ctx1,a0) =>
  if (decide (a0 < (ctx1.length : Int))) = true then
  ((
  (idx ctx1 a0) >>= fun a1 =>
  (Kq2 a1) >>= fun a2 =>
  if a2 = true then
  (idx ctx1 a0) >>= fun a3 =>
  (Kqa (a3,s0.fSize,true)) >>= fun a4 =>
  some ((!a4))
  else
  some (true)
  ) : Option (Bool)) >>= fun a5 =>
  if a5 = true then
  some (.inr false)
  else
  Kqe (s0,ctx1,(wr (a0 + 1)))
  else
  some (.inl ())
 partial_fixpoint
def Kqf (p : K00 × LL × Int) (fl : (Unit) ⊕ (Bool)) : Prop :=
 match p with
 | (s0,ctx1,a0) => ∀ c : Ctx,c.nt = 31 → WpL Tryz.prog c (cl (cl (cr (cl (cr (cr K8z)))))) (Kqd c fl) (mkS [(1,sL ctx1),(2,.ra 1 0),(5,I a0)] [(1,K1v s0)])
theorem Kqg : ∀ p r,Kqe p = some r → Kqf p r := by
 refine Kqe.partial_correctness Kqf ?_
 rintro spec_l3Context_l0_f spec_l3Context_l0_ih ⟨s0,ctx1,a0⟩ r h
 intro c hc
 refine WpL.step ?_
 refine sN ?_
 refine rss hc none [oN,oN,some (.eqv (.no) ⟨[(11,I (ctx1.length : Int))],[],[]⟩),oN] [(1,sL ctx1),(2,.ra 1 0),(5,I a0),(12,.bool (decide (a0 < (ctx1.length : Int))))] (ai (Qdj (d := 11) K14 ctx1) tv) ?_
 refine ic h (fun a1 h => ?_) fun a1 h => ?_
 ·refine sk ?_
  refine sN ?_
  refine bk 1 ?_
  refine sN ?_
  obtain ⟨a2,a3,h⟩ := Qdd h
  refine Wp.into (x := .normal) (mkS [(1,sL ctx1),(2,.ra 1 0),(5,I a0),(30,.bool a2)] [(1,K1v s0)]) ?_ ?_
  ·replace h := a3
   obtain ⟨a4,a5,a6,a7,h⟩ := bq2 h
   rcases is h with ⟨a8,h⟩ | ⟨a8,h⟩
   ·obtain ⟨a9,b1,b2,b3,h⟩ := bq2 h
    refine rgs hc Kq0 [oN,oN,some (.el (sI a4)),oN,oc (.bool a6),oN,oN,oN,oN,some (.el (sI a9)),oN,oN,oN,oc (.bool b2),oN,oF] [(1,sL ctx1),(2,.ra 1 0),(5,I a0),(30,.bool (!b2))] (ai (xL a5) (cq (Kq4 _ _ a7) K8x (ar 3 (nF a8) (ai (xL b1) (ar 4 (nF a8) (cq (Kqc _ _ b3) K8y (ar 2 (nF a8) tv))))))) ?_
    obtain rfl := os h
    exact Qcz.mk
   refine rgs hc Kq0 [oN,oN,some (.el (sI a4)),oN,oc (.bool a6),oN,oN,o_,o_,o_,o_,o_,o_,o_,o_,oT] [(1,sL ctx1),(2,.ra 1 0),(5,I a0),(30,.bool true)] (ai (xL a5) (cq (Kq4 _ _ a7) K8x (ar 8 (neF (nT a8)) (ai (nT a8) tv)))) ?_
   obtain rfl := os h
   exact Qcz.mk
  clear a3
  refine ic h (fun b4 h => ?_) fun b4 h => ?_
  ·refine rs0 hc 1 [(4,.bool false)] [] ?_
   refine rt ?_
   obtain rfl := os h
   exact re [true]
  refine sk ?_
  refine K9l hc 3 [(1,sL ctx1),(2,.ra 1 0),(5,I (wr (a0 + 1)))] ?_
  refine Qcv ?_
  exact (spec_l3Context_l0_ih _ _ h c hc)
 refine xt 0 ?_
 refine Qcp ?_
 refine Qcw ?_
 obtain rfl := os h
 exact iv []
def Kqh (p : K00 × LL) : Option (Bool) :=
 match p with
 | (s0,ctx1) =>
  if (decide ((ctx1.length : Int) > 8)) = true then
  some false
  else
  (Kqe (s0,ctx1,0)) >>= fun fl => match fl with
  | .inl () =>
   some true
  | .inr r =>
   some r
def Kqi (p : K00 × LL) (r : Bool) : Prop :=
 match p with
 | (s0,ctx1) => Q71 Tryz.prog 240 [K1w s0,sL ctx1] (.bool r) []
theorem Kqj : ∀ p r,Kqh p = some r → Kqi p r := by
 rintro ⟨s0,ctx1⟩ r h
 unfold Kqh at h
 refine b0 Tryz.f240 K8z 31 [(0,K1w s0),(1,sL ctx1)] fun c hc => ?_
 refine rs hc none [some (.new 1),oN] [(1,sL ctx1),(2,.ra 1 0)] [(1,K1v s0)] tv ?_
 refine sN ?_
 refine rss hc none [oN,some (.eqv (.no) ⟨[(7,I (ctx1.length : Int))],[],[]⟩),oN] [(1,sL ctx1),(2,.ra 1 0),(8,.bool (decide ((ctx1.length : Int) > 8)))] (ai (Qdj (d := 7) K14 ctx1) tv) ?_
 refine ic h (fun a0 h => ?_) fun a0 h => ?_
 ·refine rs0 hc 1 [(4,.bool false)] [] ?_
  refine rt ?_
  obtain rfl := os h
  exact rq [true]
 refine sk ?_
 refine sN ?_
 refine K9m hc 1 [(1,sL ctx1),(2,.ra 1 0),(5,I 0)] ?_
 refine bk 0 ?_
 obtain ⟨fl,a1,h⟩ := Qdd h
 have hL := Kqg _ _ a1 c hc
 refine lp ?_
 rcases fl with ⟨⟩ | r
 ·refine WpL.into (e := (.exit 0)) (mkS [] []) hL ?_
  refine Qcr ?_
  refine rs0 hc 1 [(4,.bool true)] [] ?_
  refine rt ?_
  obtain rfl := os h
  exact rq [true]
 refine WpL.mono hL ?_
 rintro _ _ ⟨rfl,hfin⟩
 obtain rfl := os h
 exact ⟨.inl rfl,hfin⟩
def Kqk (op0 : Int) : Option (Int) :=
 (Kad (op0,0,12)) >>= fun a0 =>
 if a0 = true then
 (idx [0,0,2,3,2,2,1,1,3,1,2,1,2] op0) >>= fun a1 =>
 some a1
 else
 some (-1)
def Kql (op0 : Int) (r : Int) : Prop :=
 Q71 Tryz.prog 227 [I op0] (I r) []
theorem Kqm : ∀ p r,Kqk p = some r → Kql p r := by
 rintro op0 r h
 unfold Kqk at h
 refine b0 Tryz.f227 K91 10 [(0,I op0)] fun c hc => ?_
 refine rs0 hc 1 [(0,I op0)] [] ?_
 refine sN ?_
 obtain ⟨a0,a1,h⟩ := Qdd h
 refine rs hc none [oN,oc (.bool a0),oN] [(0,I op0),(5,.bool (!a0))] [] (cq (Kaf _ _ a1) K3g tv) ?_
 rcases is h with ⟨a2,h⟩ | ⟨a2,h⟩
 ·refine cF (!a0) (nF a2) ?_
  refine sk ?_
  obtain ⟨a3,a4,h⟩ := Qdd h
  refine rs hc none [some (.mk 1 true),oN,oN,some (.el (I a3)),oN] [(2,I a3)] [] (ab (Qdi (enc := I) a4) (ix a4).2 tv) ?_
  refine rt ?_
  obtain rfl := os h
  exact rq [true]
 refine cT (!a0) (nT a2) ?_
 refine rs0 hc 1 [(2,I (-1))] [] ?_
 refine rt ?_
 obtain rfl := os h
 exact rq [true]
def Kqn (op0 : Int) : Option (Bool) :=
 ((
 if (op0 == 5) = true then
 some (true)
 else
 if (op0 == 8) = true then
 some (true)
 else
 if (op0 == 9) = true then
 some (true)
 else
 if (op0 == 11) = true then
 some (true)
 else
 some ((op0 == 12))
 ) : Option (Bool)) >>= fun a0 =>
 some a0
def Kqo (op0 : Int) (r : Bool) : Prop :=
 Q71 Tryz.prog 225 [I op0] (.bool r) []
theorem Kqp : ∀ p r,Kqn p = some r → Kqo p r := by
 rintro op0 r h
 unfold Kqn at h
 refine b0 Tryz.f225 K93 21 [(0,I op0)] fun c hc => ?_
 refine rs0 hc 1 [(0,I op0)] [] ?_
 refine sN ?_
 obtain ⟨a0,a1,h⟩ := Qdd h
 refine Wp.into (x := .normal) (mkS [(2,.bool a0)] []) ?_ ?_
 ·replace h := a1
  rcases is h with ⟨a2,h⟩ | ⟨a2,h⟩
  ·refine rg hc none [oN,oN,oN,o_,o_,oT,oN,o_,o_,oT,oN,o_,o_,oT,oN,o_,o_,oT,oN] [(2,.bool true)] [] (ar 2 (neF a2) (ai a2 (ar 2 nf (ai tt (ar 2 nf (ai tt (ar 2 nf (ai tt tv)))))))) ?_
   obtain rfl := os h
   exact Qcz.mk
  rcases is h with ⟨a3,h⟩ | ⟨a3,h⟩
  ·refine rg hc none [oN,oN,oN,oN,oN,oF,oN,o_,o_,oT,oN,o_,o_,oT,oN,o_,o_,oT,oN] [(2,.bool true)] [] (ar 3 a2 (ar 2 (neF a3) (ai a3 (ar 2 nf (ai tt (ar 2 nf (ai tt tv))))))) ?_
   obtain rfl := os h
   exact Qcz.mk
  rcases is h with ⟨a4,h⟩ | ⟨a4,h⟩
  ·refine rg hc none [oN,oN,oN,oN,oN,oF,oN,oN,oN,oF,oN,o_,o_,oT,oN,o_,o_,oT,oN] [(2,.bool true)] [] (ar 3 a2 (ar 3 a3 (ar 2 (neF a4) (ai a4 (ar 2 nf (ai tt tv)))))) ?_
   obtain rfl := os h
   exact Qcz.mk
  rcases is h with ⟨a5,h⟩ | ⟨a5,h⟩
  ·refine rg hc none [oN,oN,oN,oN,oN,oF,oN,oN,oN,oF,oN,oN,oN,oF,oN,o_,o_,oT,oN] [(2,.bool true)] [] (ar 3 a2 (ar 3 a3 (ar 3 a4 (ar 2 (neF a5) (ai a5 tv))))) ?_
   obtain rfl := os h
   exact Qcz.mk
  refine rg hc none [oN,oN,oN,oN,oN,oF,oN,oN,oN,oF,oN,oN,oN,oF,oN,oN,oN,oF,oN] [(2,.bool (op0 == 12))] [] (ar 3 a2 (ar 3 a3 (ar 3 a4 (ar 3 a5 tv)))) ?_
  obtain rfl := os h
  exact Qcz.mk
 clear a1
 refine rt ?_
 obtain rfl := os h
 exact rq [true]
def Kqq (op0 : Int) : Option (Bool) :=
 ((
 if (op0 == 6) = true then
 some (true)
 else
 if (op0 == 7) = true then
 some (true)
 else
 some ((op0 == 9))
 ) : Option (Bool)) >>= fun a0 =>
 some a0
def Kqr (op0 : Int) (r : Bool) : Prop :=
 Q71 Tryz.prog 228 [I op0] (.bool r) []
theorem Kqs : ∀ p r,Kqq p = some r → Kqr p r := by
 rintro op0 r h
 unfold Kqq at h
 refine b0 Tryz.f228 K95 13 [(0,I op0)] fun c hc => ?_
 refine rs0 hc 1 [(0,I op0)] [] ?_
 refine sN ?_
 obtain ⟨a0,a1,h⟩ := Qdd h
 refine Wp.into (x := .normal) (mkS [(2,.bool a0)] []) ?_ ?_
 ·replace h := a1
  rcases is h with ⟨a2,h⟩ | ⟨a2,h⟩
  ·refine rg hc none [oN,oN,oN,o_,o_,oT,oN,o_,o_,oT,oN] [(2,.bool true)] [] (ar 2 (neF a2) (ai a2 (ar 2 nf (ai tt tv)))) ?_
   obtain rfl := os h
   exact Qcz.mk
  rcases is h with ⟨a3,h⟩ | ⟨a3,h⟩
  ·refine rg hc none [oN,oN,oN,oN,oN,oF,oN,o_,o_,oT,oN] [(2,.bool true)] [] (ar 3 a2 (ar 2 (neF a3) (ai a3 tv))) ?_
   obtain rfl := os h
   exact Qcz.mk
  refine rg hc none [oN,oN,oN,oN,oN,oF,oN,oN,oN,oF,oN] [(2,.bool (op0 == 9))] [] (ar 3 a2 (ar 3 a3 tv)) ?_
  obtain rfl := os h
  exact Qcz.mk
 clear a1
 refine rt ?_
 obtain rfl := os h
 exact rq [true]
def Kqt (c : Ctx) (t0 : K01) (size2 : Int) (closed3 : Bool) : (Unit) ⊕ (Bool) → Exit → Q0a → Prop
 | .inl _ => Qcz c .normal (mkS [(2,I size2),(3,.bool closed3),(4,.ra 1 0)] [(1,K1x t0)])
 | .inr r => Qd8 TIx Tryz.f190 [] (.bool r)
def Kqu (c : Ctx) (t0 : K01) (size2 : Int) (closed3 : Bool) : (Unit) ⊕ (Bool) → Exit → Q0a → Prop
 | .inl _ => Qcz c .normal (mkS [(2,I size2),(3,.bool closed3),(4,.ra 1 0)] [(1,K1x t0)])
 | .inr r => Qd8 TIx Tryz.f190 [] (.bool r)
def Kqv (c : Ctx) (t0 : K01) (size2 : Int) (closed3 : Bool) : (Unit) ⊕ (Bool) → Exit → Q0a → Prop
 | .inl _ => Qcz c .normal (mkS [(2,I size2),(3,.bool closed3),(4,.ra 1 0)] [(1,K1x t0)])
 | .inr r => Qd8 TIx Tryz.f190 [] (.bool r)
def Kqw (p : K01 × Int × Int × Bool) : Option (Bool) :=
 match p with
 | (t0,n1,size2,closed3) =>
  (Kqk t0.fOp) >>= fun a0 =>
  if ((t0.fKids.length : Int) != a0) = true then
  some false
  else
  ((
   if (t0.fOp == 0) = true then
   (Kad (t0.fN,0,(wr (n1 - 1)))) >>= fun a1 =>
   if a1 = true then
    some (.inl ())
   else
    some (.inr false)
   else
   ((
    if (t0.fOp == 1) = true then
    (Kad (t0.fN,0,2)) >>= fun a2 =>
    if a2 = true then
     some (.inl ())
    else
     some (.inr false)
    else
    (Kqn t0.fOp) >>= fun a3 =>
    ((
     if a3 = true then
     ((
     if (decide (t0.fN ≥ size2)) = true then
     some (true)
     else
     if (decide (t0.fN < (-1))) = true then
     some (true)
     else
     if closed3 = true then
     some ((decide (t0.fN < 0)))
     else
     some (false)
     ) : Option (Bool)) >>= fun a4 =>
     if a4 = true then
     some (.inr false)
     else
     some (.inl ())
     else
     if (t0.fN != 0) = true then
     some (.inr false)
     else
     some (.inl ())) : Option ((Unit) ⊕ (Bool))) >>= fun fl => match fl with
    | .inl () =>
     some (.inl ())
    | .inr r =>
     some (.inr r)) : Option ((Unit) ⊕ (Bool))) >>= fun fl => match fl with
   | .inl () =>
    some (.inl ())
   | .inr r =>
    some (.inr r)) : Option ((Unit) ⊕ (Bool))) >>= fun fl => match fl with
  | .inl () =>
   (Kqq t0.fOp) >>= fun a5 =>
   if a5 = true then
   ((
    (Kq2 t0.fType) >>= fun a6 =>
    if a6 = true then
    (Kqa (t0.fType,size2,closed3)) >>= fun a7 =>
    some (a7)
    else
    some (false)
   ) : Option (Bool)) >>= fun a8 =>
   some a8
   else
   some ((t0.fType.length : Int) == 0)
  | .inr r =>
   some r
def Kqx (p : K01 × Int × Int × Bool) (r : Bool) : Prop :=
 match p with
 | (t0,n1,size2,closed3) => Q71 Tryz.prog 190 [K1y t0,I n1,I size2,.bool closed3] (.bool r) []
theorem Kqy : ∀ p r,Kqw p = some r → Kqx p r := by
 rintro ⟨t0,n1,size2,closed3⟩ r h
 unfold Kqw at h
 refine b0 Tryz.f190 K97 76 [(0,K1y t0),(1,I n1),(2,I size2),(3,.bool closed3)] fun c hc => ?_
 refine rs hc none [some (.new 1),oN] [(1,I n1),(2,I size2),(3,.bool closed3),(4,.ra 1 0)] [(1,K1x t0)] tv ?_
 refine sN ?_
 obtain ⟨a0,a1,h⟩ := Qdd h
 refine rss hc (rx [[0],[1],[2],[0],[0,3],[0,3,4],[6]]) [oN,oN,some (.eqv (.no) ⟨[(11,I (t0.fKids.length : Int))],[],[]⟩),oN,oN,oc (I a0),oN] [(1,I n1),(2,I size2),(3,.bool closed3),(4,.ra 1 0),(15,.bool ((t0.fKids.length : Int) != a0))] (ai (Qdj (d := 11) K0h t0.fKids) (cq (Kqm _ _ a1) K92 tv)) ?_
 refine ic h (fun a2 h => ?_) fun a2 h => ?_
 ·refine rs0 hc 1 [(8,.bool false)] [] ?_
  refine rt ?_
  obtain rfl := os h
  exact rq [true]
 refine sk ?_
 refine sN ?_
 refine bk 0 ?_
 refine K9m hc 4 [(1,I n1),(2,I size2),(3,.bool closed3),(4,.ra 1 0),(19,.bool (t0.fOp == 0))] ?_
 obtain ⟨fl,a3,h⟩ := Qdd h
 refine flw (Kqv c t0 size2 closed3 fl) ?_ (fun hF => ?_)
 ·replace h := a3
  refine ic h (fun a4 h => ?_) fun a4 h => ?_
  ·obtain ⟨a5,a6,h⟩ := Qdd h
   refine rss hc none [oN,oN,oN,oN,oc (.bool a5),oN] [(2,I size2),(3,.bool closed3),(4,.ra 1 0),(28,.bool (!a5))] (cq (Kaf _ _ a6) K3g tv) ?_
   rcases is h with ⟨a7,h⟩ | ⟨a7,h⟩
   ·refine cF (!a5) (nF a7) ?_
    refine sk ?_
    obtain rfl := os h
    exact iv []
   refine cT (!a5) (nT a7) ?_
   refine rs0 hc 1 [(8,.bool false)] [] ?_
   refine rt ?_
   obtain rfl := os h
   exact re [true]
  refine K9m hc 4 [(2,I size2),(3,.bool closed3),(4,.ra 1 0),(29,.bool (t0.fOp == 1))] ?_
  obtain ⟨fl,a8,h⟩ := Qdd h
  refine flw (Kqu c t0 size2 closed3 fl) ?_ (fun hF => ?_)
  ·replace h := a8
   refine ic h (fun a9 h => ?_) fun a9 h => ?_
   ·obtain ⟨b1,b2,h⟩ := Qdd h
    refine rss hc none [oN,oN,oc (.bool b1),oN] [(2,I size2),(3,.bool closed3),(4,.ra 1 0),(36,.bool (!b1))] (cq (Kaf _ _ b2) K3g tv) ?_
    rcases is h with ⟨b3,h⟩ | ⟨b3,h⟩
    ·refine cF (!b1) (nF b3) ?_
     refine sk ?_
     obtain rfl := os h
     exact iv []
    refine cT (!b1) (nT b3) ?_
    refine rs0 hc 1 [(8,.bool false)] [] ?_
    refine rt ?_
    obtain rfl := os h
    exact re [true]
   obtain ⟨b4,b5,h⟩ := Qdd h
   refine rss hc none [oN,oN,oc (.bool b4),oN] [(2,I size2),(3,.bool closed3),(4,.ra 1 0),(37,.bool b4)] (cq (Kqp _ _ b5) K94 tv) ?_
   obtain ⟨fl,b6,h⟩ := Qdd h
   refine flw (Kqt c t0 size2 closed3 fl) ?_ (fun hF => ?_)
   ·replace h := b6
    refine ic h (fun b7 h => ?_) fun b7 h => ?_
    ·refine sN ?_
     obtain ⟨b8,b9,h⟩ := Qdd h
     refine Wp.into (x := .normal) (mkS [(2,I size2),(3,.bool closed3),(4,.ra 1 0),(57,.bool b8)] [(1,K1x t0)]) ?_ ?_
     ·replace h := b9
      rcases is h with ⟨c0,h⟩ | ⟨c0,h⟩
      ·refine rgs hc none [oN,oN,oN,oN,oN,o_,o_,o_,oT,oN,o_,o_,o_,o_,o_,o_,oT] [(2,I size2),(3,.bool closed3),(4,.ra 1 0),(57,.bool true)] (ar 3 (neF c0) (ai c0 (ar 3 nf (ai tt tv)))) ?_
       obtain rfl := os h
       exact Qcz.mk
      rcases is h with ⟨c1,h⟩ | ⟨c1,h⟩
      ·refine rgs hc none [oN,oN,oN,oN,oN,oN,oN,oN,oF,oN,o_,o_,o_,o_,o_,o_,oT] [(2,I size2),(3,.bool closed3),(4,.ra 1 0),(57,.bool true)] (ar 4 c0 (ar 3 (neF c1) (ai c1 tv))) ?_
       obtain rfl := os h
       exact Qcz.mk
      rcases is h with ⟨c2,h⟩ | ⟨c2,h⟩
      ·refine rgs hc none [oN,oN,oN,oN,oN,oN,oN,oN,oF,oN,oN,oN,oN,oN,oN,oT,oF] [(2,I size2),(3,.bool closed3),(4,.ra 1 0),(57,.bool (decide (t0.fN < 0)))] (ar 4 c0 (ar 2 c1 (ar 3 c2 (ac c1 c2 c1 tv)))) ?_
       obtain rfl := os h
       exact Qcz.mk
      refine rgs hc none [oN,oN,oN,oN,oN,oN,oN,oN,oF,oN,oN,oN,o_,o_,o_,oF,oF] [(2,I size2),(3,.bool closed3),(4,.ra 1 0),(57,.bool false)] (ar 4 c0 (ar 2 c1 (ar 3 (neT c2) (ac c1 c2 c1 tv)))) ?_
      obtain rfl := os h
      exact Qcz.mk
     clear b9
     refine ic h (fun c3 h => ?_) fun c3 h => ?_
     ·refine rs0 hc 1 [(8,.bool false)] [] ?_
      refine rt ?_
      obtain rfl := os h
      exact re [true]
     refine sk ?_
     obtain rfl := os h
     exact iv []
    refine K9m hc 3 [(2,I size2),(3,.bool closed3),(4,.ra 1 0),(18,.bool (t0.fN != 0))] ?_
    refine ic h (fun c4 h => ?_) fun c4 h => ?_
    ·refine rs0 hc 1 [(8,.bool false)] [] ?_
     refine rt ?_
     obtain rfl := os h
     exact re [true]
    refine sk ?_
    obtain rfl := os h
    exact iv []
   rcases fl with ⟨⟩ | r
   ·refine Wp.into (x := .normal) (mkS [(2,I size2),(3,.bool closed3),(4,.ra 1 0)] [(1,K1x t0)]) hF ?_
    obtain rfl := os h
    exact Qcz.mk
   refine Wp.mono hF ?_
   rintro _ _ ⟨rfl,hfin⟩
   obtain rfl := os h
   exact ⟨rfl,hfin⟩
  rcases fl with ⟨⟩ | r
  ·refine Wp.into (x := .normal) (mkS [(2,I size2),(3,.bool closed3),(4,.ra 1 0)] [(1,K1x t0)]) hF ?_
   obtain rfl := os h
   exact Qcz.mk
  refine Wp.mono hF ?_
  rintro _ _ ⟨rfl,hfin⟩
  obtain rfl := os h
  exact ⟨rfl,hfin⟩
 rcases fl with ⟨⟩ | r
 ·refine Wp.into (x := .normal) (mkS [(2,I size2),(3,.bool closed3),(4,.ra 1 0)] [(1,K1x t0)]) hF ?_
  refine sN ?_
  obtain ⟨c5,c6,h⟩ := Qdd h
  refine rss hc none [oN,oN,oc (.bool c5),oN] [(2,I size2),(3,.bool closed3),(4,.ra 1 0),(61,.bool (!c5))] (cq (Kqs _ _ c6) K96 tv) ?_
  rcases is h with ⟨c7,h⟩ | ⟨c7,h⟩
  ·refine cF (!c5) (nF c7) ?_
   refine sk ?_
   refine sN ?_
   obtain ⟨c8,c9,h⟩ := Qdd h
   refine Wp.into (x := .normal) (mkS [(8,.bool c8)] []) ?_ ?_
   ·replace h := c9
    obtain ⟨d0,d1,h⟩ := Qdd h
    rcases is h with ⟨d2,h⟩ | ⟨d2,h⟩
    ·obtain ⟨d3,d4,h⟩ := Qdd h
     refine rg hc none [oN,oN,oc (.bool d0),oN,oN,oN,oN,oN,oc (.bool d3),oT,oN] [(8,.bool d3)] [] (cq (Kq4 _ _ d1) K8x (ar 5 d2 (cq (Kqc _ _ d4) K8y (ai d2 tv)))) ?_
     obtain rfl := os h
     exact Qcz.mk
    refine rg hc none [oN,oN,oc (.bool d0),oN,o_,o_,o_,o_,o_,oF,oN] [(8,.bool false)] [] (cq (Kq4 _ _ d1) K8x (ar 5 (neT d2) (ai d2 tv))) ?_
    obtain rfl := os h
    exact Qcz.mk
   clear c9
   refine rt ?_
   obtain rfl := os h
   exact rq [true]
  refine cT (!c5) (nT c7) ?_
  refine rs hc none [oN,oN,some (.eqv (.no) ⟨[(64,I (t0.fType.length : Int))],[],[]⟩),oN,oN] [(8,.bool ((t0.fType.length : Int) == 0))] [] (ai (Qdj (d := 64) I t0.fType) tv) ?_
  refine rt ?_
  obtain rfl := os h
  exact rq [true]
 refine Wp.mono hF ?_
 rintro _ _ ⟨rfl,hfin⟩
 obtain rfl := os h
 exact ⟨.inl rfl,hfin⟩
def Kqz (c : Ctx) : (Unit) ⊕ (Bool) → Exit → Q0a → Prop
 | .inl _ => Qcz c (.exit 0) (mkS [] [])
 | .inr r => Qd8 TIx Tryz.f114 [] (.bool r)
mutual
def Kr0 (p : K01 × Int × Int × Bool) : Option (Bool) :=
 match p with
 | (t0,n1,size2,closed3) =>
  (Kqw (t0,n1,size2,closed3)) >>= fun a0 =>
  if a0 = true then
  (Kr1 (t0,n1,size2,closed3,0)) >>= fun fl => match fl with
  | .inl () =>
   some true
  | .inr r =>
   some r
  else
  some false
 partial_fixpoint
def Kr1 (p : K01 × Int × Int × Bool × Int) : Option ((Unit) ⊕ (Bool)) :=
 match p with
 | (t0,n1,size2,closed3,a0) =>
  if (decide (a0 < (t0.fKids.length : Int))) = true then
  (idx t0.fKids a0) >>= fun a1 =>
  (Kgl (t0.fOp,a0)) >>= fun a2 =>
  (Kr0 (a1,(wr (n1 + a2)),size2,closed3)) >>= fun a3 =>
  if a3 = true then
  Kr1 (t0,n1,size2,closed3,(wr (a0 + 1)))
  else
  some (.inr false)
  else
  some (.inl ())
 partial_fixpoint
end
def Kr2 (p : K01 × Int × Int × Bool) (r : Bool) : Prop :=
 match p with
 | (t0,n1,size2,closed3) => Q71 Tryz.prog 114 [K1y t0,I n1,I size2,.bool closed3] (.bool r) []
def Kr3 (p : K01 × Int × Int × Bool × Int) (fl : (Unit) ⊕ (Bool)) : Prop :=
 match p with
 | (t0,n1,size2,closed3,a0) => ∀ c : Ctx,c.nt = 38 → WpL Tryz.prog c (cl (cl (cr (cl (cr (cr K99)))))) (Kqz c fl) (mkS [(1,I n1),(2,I size2),(3,.bool closed3),(4,.ra 1 0),(9,I a0)] [(1,K1x t0)])
theorem Kr4 : (∀ p r,Kr0 p = some r → Kr2 p r) ∧ (∀ p r,Kr1 p = some r → Kr3 p r) := by
 refine Kr0.mutual_partial_correctness Kr2 Kr3 ?_ ?_
 ·rintro spec_l2Term_l0_f spec_l2Term_l0_ih ⟨t0,n1,size2,closed3⟩ r h
  refine b0 Tryz.f114 K99 38 [(0,K1y t0),(1,I n1),(2,I size2),(3,.bool closed3)] fun c hc => ?_
  refine rs hc none [some (.new 1),oN] [(1,I n1),(2,I size2),(3,.bool closed3),(4,.ra 1 0)] [(1,K1x t0)] tv ?_
  refine sN ?_
  obtain ⟨a0,a1,h⟩ := Qdd h
  refine rss hc none [oN,oN,oN,oN,oc (.bool a0),oN] [(1,I n1),(2,I size2),(3,.bool closed3),(4,.ra 1 0),(15,.bool (!a0))] (cq (Kqy _ _ a1) K98 tv) ?_
  rcases is h with ⟨a2,h⟩ | ⟨a2,h⟩
  ·refine cF (!a0) (nF a2) ?_
   refine sk ?_
   refine sN ?_
   refine K9m hc 1 [(1,I n1),(2,I size2),(3,.bool closed3),(4,.ra 1 0),(9,I 0)] ?_
   refine bk 0 ?_
   obtain ⟨fl,a3,h⟩ := Qdd h
   have hL := spec_l2Term_l0_ih _ _ a3 c hc
   refine lp ?_
   rcases fl with ⟨⟩ | r
   ·refine WpL.into (e := (.exit 0)) (mkS [] []) hL ?_
    refine Qcr ?_
    refine rs0 hc 1 [(8,.bool true)] [] ?_
    refine rt ?_
    obtain rfl := os h
    exact rq [true]
   refine WpL.mono hL ?_
   rintro _ _ ⟨rfl,hfin⟩
   obtain rfl := os h
   exact ⟨.inl rfl,hfin⟩
  refine cT (!a0) (nT a2) ?_
  refine rs0 hc 1 [(8,.bool false)] [] ?_
  refine rt ?_
  obtain rfl := os h
  exact rq [true]
 ·rintro spec_l2Term_f spec_l2Term_l0_f spec_l2Term_ih spec_l2Term_l0_ih ⟨t0,n1,size2,closed3,a4⟩ r h
  intro c hc
  refine WpL.step ?_
  refine sN ?_
  refine rss hc none [oN,oN,oN,some (.eqv (.no) ⟨[(19,I (t0.fKids.length : Int))],[],[]⟩),oN] [(1,I n1),(2,I size2),(3,.bool closed3),(4,.ra 1 0),(9,I a4),(20,.bool (decide (a4 < (t0.fKids.length : Int))))] (ai (Qdj (d := 19) K0h t0.fKids) tv) ?_
  refine ic h (fun a5 h => ?_) fun a5 h => ?_
  ·refine sk ?_
   refine sN ?_
   refine bk 1 ?_
   obtain ⟨a6,a7,a8,a9,b1,b2,h⟩ := bq3 h
   refine rss hc (rx [[0],[1],[0],[3],[4],[0],[0],[0,6],[0],[0,6,7,8],[0,5,6,7,8,9],[0],[0],[13],[14]]) [oN,oN,oN,some (.el (K1y a6)),oN,oN,oN,oN,oN,oc (I a8),oN,oN,oN,oc (.bool b1),oN] [(1,I n1),(2,I size2),(3,.bool closed3),(4,.ra 1 0),(9,I a4),(37,.bool (!b1))] (ai (Qdh a7 (K0o a6)) (cq (Kgn _ _ a9) K60 (cq (spec_l2Term_ih _ _ b2) K9a tv))) ?_
   rcases is h with ⟨b3,h⟩ | ⟨b3,h⟩
   ·refine cF (!b1) (nF b3) ?_
    refine sk ?_
    refine K9l hc 3 [(1,I n1),(2,I size2),(3,.bool closed3),(4,.ra 1 0),(9,I (wr (a4 + 1)))] ?_
    refine Qcv ?_
    exact (spec_l2Term_l0_ih _ _ h c hc)
   refine cT (!b1) (nT b3) ?_
   refine rs0 hc 1 [(8,.bool false)] [] ?_
   refine rt ?_
   obtain rfl := os h
   exact re [true]
  refine xt 0 ?_
  refine Qcp ?_
  refine Qcw ?_
  obtain rfl := os h
  exact iv []
theorem Kr5 : ∀ p r,Kr0 p = some r → Kr2 p r := Kr4.1
theorem Kr6 : ∀ p r,Kr1 p = some r → Kr3 p r := Kr4.2
def Kr7 (p : K00 × K01 × Int) : Option (Bool) :=
 match p with
 | (s0,t1,n2) =>
  ((
  (Kct s0) >>= fun a0 =>
  if a0 = true then
  (Kad (n2,0,8)) >>= fun a1 =>
  if a1 = true then
  (Khm (t1,400)) >>= fun a2 =>
  if (decide (a2 ≥ 0)) = true then
  (Kr0 (t1,n2,s0.fSize,true)) >>= fun a3 =>
  some (a3)
  else
  some (false)
  else
  some (false)
  else
  some (false)
  ) : Option (Bool)) >>= fun a4 =>
  some a4
def Kr8 (p : K00 × K01 × Int) (r : Bool) : Prop :=
 match p with
 | (s0,t1,n2) => Q71 Tryz.prog 183 [K1w s0,K1y t1,I n2] (.bool r) []
theorem Kr9 : ∀ p r,Kr7 p = some r → Kr8 p r := by
 rintro ⟨s0,t1,n2⟩ r h
 unfold Kr7 at h
 refine b0 Tryz.f183 K9b 25 [(0,K1w s0),(1,K1y t1),(2,I n2)] fun c hc => ?_
 refine rs hc none [some (.new 1),some (.new 2),oN] [(2,I n2),(3,.ra 1 0),(4,.ra 2 0)] [(1,K1v s0),(2,K1x t1)] tv ?_
 refine sN ?_
 obtain ⟨a0,a1,h⟩ := Qdd h
 refine Wp.into (x := .normal) (mkS [(6,.bool a0)] []) ?_ ?_
 ·replace h := a1
  obtain ⟨a2,a3,h⟩ := Qdd h
  rcases is h with ⟨a4,h⟩ | ⟨a4,h⟩
  ·obtain ⟨a5,a6,h⟩ := Qdd h
   rcases is h with ⟨a7,h⟩ | ⟨a7,h⟩
   ·obtain ⟨a8,a9,h⟩ := Qdd h
    rcases is h with ⟨b1,h⟩ | ⟨b1,h⟩
    ·obtain ⟨b2,b3,h⟩ := Qdd h
     refine rg hc none [oN,oc (.bool a2),oN,oN,oc (.bool a5),oT,oN,oN,oc (I a8),oN,oT,oN,oN,oN,oN,oN,oc (.bool b2),oT,oN] [(6,.bool b2)] [] (cq (Kcv _ _ a3) K46 (ar 2 a4 (cq (Kaf _ _ a6) K3g (ai a4 (ar 2 a7 (cq (Khr _ _ a9) K64 (ar 2 a7 (ar 5 b1 (cq (Kr5 _ _ b3) K9a (ai b1 tv)))))))))) ?_
     obtain rfl := os h
     exact Qcz.mk
    refine rg hc none [oN,oc (.bool a2),oN,oN,oc (.bool a5),oT,oN,oN,oc (I a8),oN,oT,oN,o_,o_,o_,o_,o_,oF,oN] [(6,.bool false)] [] (cq (Kcv _ _ a3) K46 (ar 2 a4 (cq (Kaf _ _ a6) K3g (ai a4 (ar 2 a7 (cq (Khr _ _ a9) K64 (ar 2 a7 (ar 5 (neT b1) (ai b1 tv))))))))) ?_
    obtain rfl := os h
    exact Qcz.mk
   refine rg hc none [oN,oc (.bool a2),oN,oN,oc (.bool a5),oT,oN,o_,o_,o_,oF,oN,o_,o_,o_,o_,o_,oF,oN] [(6,.bool false)] [] (cq (Kcv _ _ a3) K46 (ar 2 a4 (cq (Kaf _ _ a6) K3g (ai a4 (ar 3 (neT a7) (ai a7 (ar 5 (neT (rfl : false = false)) (ai (rfl : false = false) tv)))))))) ?_
   obtain rfl := os h
   exact Qcz.mk
  refine rg hc none [oN,oc (.bool a2),oN,o_,o_,oF,oN,o_,o_,o_,oF,oN,o_,o_,o_,o_,o_,oF,oN] [(6,.bool false)] [] (cq (Kcv _ _ a3) K46 (ar 2 (neT a4) (ai a4 (ar 3 (neT (rfl : false = false)) (ai (rfl : false = false) (ar 5 (neT (rfl : false = false)) (ai (rfl : false = false) tv))))))) ?_
  obtain rfl := os h
  exact Qcz.mk
 clear a1
 refine rt ?_
 obtain rfl := os h
 exact rq [true]
def Kra (p : K00 × LL × K01) : Option (Bool) :=
 match p with
 | (s0,ctx1,t2) =>
  ((
  (Kct s0) >>= fun a0 =>
  if a0 = true then
  (Kqh (s0,ctx1)) >>= fun a1 =>
  if a1 = true then
  (Kr7 (s0,t2,(ctx1.length : Int))) >>= fun a2 =>
  some (a2)
  else
  some (false)
  else
  some (false)
  ) : Option (Bool)) >>= fun a3 =>
  some a3
def Krb (p : K00 × LL × K01) (r : Bool) : Prop :=
 match p with
 | (s0,ctx1,t2) => Q71 Tryz.prog 205 [K1w s0,sL ctx1,K1y t2] (.bool r) []
theorem Krc : ∀ p r,Kra p = some r → Krb p r := by
 rintro ⟨s0,ctx1,t2⟩ r h
 unfold Kra at h
 refine b0 Tryz.f205 K9d 21 [(0,K1w s0),(1,sL ctx1),(2,K1y t2)] fun c hc => ?_
 refine rs hc none [some (.new 1),some (.new 2),oN] [(1,sL ctx1),(3,.ra 1 0),(5,.ra 2 0)] [(1,K1v s0),(2,K1x t2)] tv ?_
 refine sN ?_
 obtain ⟨a0,a1,h⟩ := Qdd h
 refine Wp.into (x := .normal) (mkS [(6,.bool a0)] []) ?_ ?_
 ·replace h := a1
  obtain ⟨a2,a3,h⟩ := Qdd h
  rcases is h with ⟨a4,h⟩ | ⟨a4,h⟩
  ·obtain ⟨a5,a6,h⟩ := Qdd h
   rcases is h with ⟨a7,h⟩ | ⟨a7,h⟩
   ·obtain ⟨a8,a9,h⟩ := Qdd h
    refine rg hc none [oN,oc (.bool a2),oN,oN,oN,oc (.bool a5),oT,oN,oN,oN,oN,some (.eqv (.no) ⟨[(18,I (ctx1.length : Int))],[],[]⟩),oc (.bool a8),oT,oN] [(6,.bool a8)] [] (cq (Kcv _ _ a3) K46 (ar 3 a4 (cq (Kqj _ _ a6) K90 (ai a4 (ar 4 a7 (ab (Qdj (d := 18) K14 ctx1) a7 (cq (Kr9 _ _ a9) K9c (ai a7 tv)))))))) ?_
    obtain rfl := os h
    exact Qcz.mk
   refine rg hc none [oN,oc (.bool a2),oN,oN,oN,oc (.bool a5),oT,oN,o_,o_,o_,o_,o_,oF,oN] [(6,.bool false)] [] (cq (Kcv _ _ a3) K46 (ar 3 a4 (cq (Kqj _ _ a6) K90 (ai a4 (ar 5 (neT a7) (ai a7 tv)))))) ?_
   obtain rfl := os h
   exact Qcz.mk
  refine rg hc none [oN,oc (.bool a2),oN,o_,o_,o_,oF,oN,o_,o_,o_,o_,o_,oF,oN] [(6,.bool false)] [] (cq (Kcv _ _ a3) K46 (ar 3 (neT a4) (ai a4 (ar 5 (neT (rfl : false = false)) (ai (rfl : false = false) tv))))) ?_
  obtain rfl := os h
  exact Qcz.mk
 clear a1
 refine rt ?_
 obtain rfl := os h
 exact rq [true]
def Krd (p : K00 × LL × K01) : Option ((List Int) × (List Int) × Bool) :=
 match p with
 | (s0,ctx1,t2) =>
  (Kra (s0,ctx1,t2)) >>= fun a0 =>
  if a0 = true then
  (Kfy (s0,ctx1,t2)) >>= fun a1 =>
  if (a1.ffault != 0) = true then
  some ([],[],false)
  else
  some (a1.fty,a1.fneeds,true)
  else
  some ([],[],false)
def Kre (p : K00 × LL × K01) (r : (List Int) × (List Int) × Bool) : Prop :=
 match p with
 | (s0,ctx1,t2) => Q71 Tryz.prog 146 [K1w s0,sL ctx1,K1y t2] (.tup [sI r.1,.sl (List.map I r.2.1),.bool r.2.2]) []
theorem Krf : ∀ p r,Krd p = some r → Kre p r := by
 rintro ⟨s0,ctx1,t2⟩ r h
 unfold Krd at h
 refine b0 Tryz.f146 K9f 26 [(0,K1w s0),(1,sL ctx1),(2,K1y t2)] fun c hc => ?_
 refine rs hc none [some (.new 1),some (.new 2),oN,oN,oN] [(1,sL ctx1),(3,.ra 1 0),(5,.ra 2 0)] [(1,K1v s0),(2,K1x t2)] tv ?_
 refine sN ?_
 obtain ⟨a0,a1,h⟩ := Qdd h
 refine rss hc none [oN,oN,oN,oc (.bool a0),oN] [(1,sL ctx1),(3,.ra 1 0),(5,.ra 2 0),(14,.bool (!a0))] (cq (Krc _ _ a1) K9e tv) ?_
 rcases is h with ⟨a2,h⟩ | ⟨a2,h⟩
 ·refine cF (!a0) (nF a2) ?_
  refine sk ?_
  obtain ⟨a3,a4,h⟩ := Qdd h
  refine rs hc none [oN,oN,oN,oc (K22 a3),some (.new 3),oN] [(9,.ra 3 0)] [(3,K21 a3)] (cq (Kg7 _ _ a4) K5s tv) ?_
  refine sN ?_
  refine K9m hc 3 [(9,.ra 3 0),(21,.bool (a3.ffault != 0))] ?_
  refine ic h (fun a5 h => ?_) fun a5 h => ?_
  ·refine rs0 hc 3 [(6,.nils),(7,.nils),(8,.bool false)] [] ?_
   refine rt ?_
   obtain rfl := os h
   exact rq [false,false,true]
  refine sk ?_
  refine rs hc (rx [[0],[1],[0],[0,2],[2],[5],[6]]) [oN,oN,oN,oN,oN,oN,oN] [(6,sI a3.fty),(7,sI a3.fneeds),(8,.bool true)] [] tv ?_
  refine rt ?_
  obtain rfl := os h
  exact rq [false,false,true]
 refine cT (!a0) (nT a2) ?_
 refine rs0 hc 3 [(6,.nils),(7,.nils),(8,.bool false)] [] ?_
 refine rt ?_
 obtain rfl := os h
 exact rq [false,false,true]
def Krg (c : Ctx) : (Unit) ⊕ (Bool) → Exit → Q0a → Prop
 | .inl _ => Qcz c (.exit 0) (mkS [] [])
 | .inr r => Qd8 TIx Tryz.f148 [] (.bool r)
def Krh (p : K00 × (List Int) × (List Int) × Int) : Option ((Unit) ⊕ (Bool)) :=
 match p with
 | (s0,needs1,budgets2,a0) =>
  if (decide (a0 < (needs1.length : Int))) = true then
  ((
  (idx budgets2 a0) >>= fun a1 =>
  (Kad (a1,0,(wr (s0.fSize - 1)))) >>= fun a2 =>
  if a2 = true then
  (idx needs1 a0) >>= fun a3 =>
  (idx budgets2 a0) >>= fun a4 =>
  (Kbs (s0,a3,a4)) >>= fun a5 =>
  some ((!a5))
  else
  some (true)
  ) : Option (Bool)) >>= fun a6 =>
  if a6 = true then
  some (.inr false)
  else
  Krh (s0,needs1,budgets2,(wr (a0 + 1)))
  else
  some (.inl ())
 partial_fixpoint
def Kri (p : K00 × (List Int) × (List Int) × Int) (fl : (Unit) ⊕ (Bool)) : Prop :=
 match p with
 | (s0,needs1,budgets2,a0) => ∀ c : Ctx,c.nt = 41 → WpL Tryz.prog c (cl (cl (cr (cl (cr (cr K9h)))))) (Krg c fl) (mkS [(1,sI needs1),(2,sI budgets2),(3,.ra 1 0),(7,I a0)] [(1,K1v s0)])
theorem Krj : ∀ p r,Krh p = some r → Kri p r := by
 refine Krh.partial_correctness Kri ?_
 rintro spec_l3Below_l0_f spec_l3Below_l0_ih ⟨s0,needs1,budgets2,a0⟩ r h
 intro c hc
 refine WpL.step ?_
 refine sN ?_
 refine rss hc none [oN,oN,some (.eqv (.no) ⟨[(15,I (needs1.length : Int))],[],[]⟩),oN] [(1,sI needs1),(2,sI budgets2),(3,.ra 1 0),(7,I a0),(16,.bool (decide (a0 < (needs1.length : Int))))] (ai (Qdj (d := 15) I needs1) tv) ?_
 refine ic h (fun a1 h => ?_) fun a1 h => ?_
 ·refine sk ?_
  refine sN ?_
  refine bk 1 ?_
  refine sN ?_
  obtain ⟨a2,a3,h⟩ := Qdd h
  refine Wp.into (x := .normal) (mkS [(1,sI needs1),(2,sI budgets2),(3,.ra 1 0),(7,I a0),(40,.bool a2)] [(1,K1v s0)]) ?_ ?_
  ·replace h := a3
   obtain ⟨a4,a5,a6,a7,h⟩ := bq2 h
   rcases is h with ⟨a8,h⟩ | ⟨a8,h⟩
   ·obtain ⟨a9,b1,b2,b3,b4,b5,h⟩ := bq3 h
    refine rgs hc Kq1 [oN,oN,some (.el (I a4)),oN,oN,oN,oN,oc (.bool a6),oN,oN,oN,oN,oN,some (.el (I a9)),oN,oN,oN,some (.el (I b2)),oN,oc (.bool b4),oN,oF] [(1,sI needs1),(2,sI budgets2),(3,.ra 1 0),(7,I a0),(40,.bool (!b4))] (ai (ix a5) (cq (Kaf _ _ a7) K3g (ar 4 (nF a8) (ai (ix b1) (ar 4 (nF a8) (ai (ix b3) (ar 2 (nF a8) (cq (Kbu _ _ b5) K3x (ar 2 (nF a8) tv))))))))) ?_
    obtain rfl := os h
    exact Qcz.mk
   refine rgs hc Kq1 [oN,oN,some (.el (I a4)),oN,oN,oN,oN,oc (.bool a6),oN,oN,o_,o_,o_,o_,o_,o_,o_,o_,o_,o_,o_,oT] [(1,sI needs1),(2,sI budgets2),(3,.ra 1 0),(7,I a0),(40,.bool true)] (ai (ix a5) (cq (Kaf _ _ a7) K3g (ar 11 (neF (nT a8)) (ai (nT a8) tv)))) ?_
   obtain rfl := os h
   exact Qcz.mk
  clear a3
  refine ic h (fun b6 h => ?_) fun b6 h => ?_
  ·refine rs0 hc 1 [(6,.bool false)] [] ?_
   refine rt ?_
   obtain rfl := os h
   exact re [true]
  refine sk ?_
  refine K9l hc 3 [(1,sI needs1),(2,sI budgets2),(3,.ra 1 0),(7,I (wr (a0 + 1)))] ?_
  refine Qcv ?_
  exact (spec_l3Below_l0_ih _ _ h c hc)
 refine xt 0 ?_
 refine Qcp ?_
 refine Qcw ?_
 obtain rfl := os h
 exact iv []
def Krk (p : K00 × (List Int) × (List Int)) : Option (Bool) :=
 match p with
 | (s0,needs1,budgets2) =>
  if ((needs1.length : Int) != (budgets2.length : Int)) = true then
  some false
  else
  (Krh (s0,needs1,budgets2,0)) >>= fun fl => match fl with
  | .inl () =>
   some true
  | .inr r =>
   some r
def Krl (p : K00 × (List Int) × (List Int)) (r : Bool) : Prop :=
 match p with
 | (s0,needs1,budgets2) => Q71 Tryz.prog 148 [K1w s0,sI needs1,sI budgets2] (.bool r) []
theorem Krm : ∀ p r,Krk p = some r → Krl p r := by
 rintro ⟨s0,needs1,budgets2⟩ r h
 unfold Krk at h
 refine b0 Tryz.f148 K9h 41 [(0,K1w s0),(1,sI needs1),(2,sI budgets2)] fun c hc => ?_
 refine rs hc none [some (.new 1),oN] [(1,sI needs1),(2,sI budgets2),(3,.ra 1 0)] [(1,K1v s0)] tv ?_
 refine sN ?_
 refine rss hc none [oN,some (.eqv (.no) ⟨[(9,I (needs1.length : Int))],[],[]⟩),oN,some (.eqv (.no) ⟨[(11,I (budgets2.length : Int))],[],[]⟩),oN] [(1,sI needs1),(2,sI budgets2),(3,.ra 1 0),(12,.bool ((needs1.length : Int) != (budgets2.length : Int)))] (ab (Qdj (d := 9) I needs1) (Qdj (d := 11) I budgets2) tv) ?_
 refine ic h (fun a0 h => ?_) fun a0 h => ?_
 ·refine rs0 hc 1 [(6,.bool false)] [] ?_
  refine rt ?_
  obtain rfl := os h
  exact rq [true]
 refine sk ?_
 refine sN ?_
 refine K9m hc 1 [(1,sI needs1),(2,sI budgets2),(3,.ra 1 0),(7,I 0)] ?_
 refine bk 0 ?_
 obtain ⟨fl,a1,h⟩ := Qdd h
 have hL := Krj _ _ a1 c hc
 refine lp ?_
 rcases fl with ⟨⟩ | r
 ·refine WpL.into (e := (.exit 0)) (mkS [] []) hL ?_
  refine Qcr ?_
  refine rs0 hc 1 [(6,.bool true)] [] ?_
  refine rt ?_
  obtain rfl := os h
  exact rq [true]
 refine WpL.mono hL ?_
 rintro _ _ ⟨rfl,hfin⟩
 obtain rfl := os h
 exact ⟨.inl rfl,hfin⟩
def Krn (p : K00 × LL × (List Int) × K01 × (List Int)) : Option (Bool) :=
 match p with
 | (s0,ctx1,budgets2,t3,ty4) =>
  (Krd (s0,ctx1,t3)) >>= fun (a0,a1,a2) =>
  ((
  if a2 = true then
  (Ke7 (a0,ty4)) >>= fun a3 =>
  if a3 = true then
  (Krk (s0,a1,budgets2)) >>= fun a4 =>
  some (a4)
  else
  some (false)
  else
  some (false)
  ) : Option (Bool)) >>= fun a5 =>
  some a5
def Kro (p : K00 × LL × (List Int) × K01 × (List Int)) (r : Bool) : Prop :=
 match p with
 | (s0,ctx1,budgets2,t3,ty4) => Q71 Tryz.prog 65 [K1w s0,sL ctx1,sI budgets2,K1y t3,sI ty4] (.bool r) []
theorem Krp : ∀ p r,Krn p = some r → Kro p r := by
 rintro ⟨s0,ctx1,budgets2,t3,ty4⟩ r h
 unfold Krn at h
 refine b0 Tryz.f65 B65 34 [(0,K1w s0),(1,sL ctx1),(2,sI budgets2),(3,K1y t3),(4,sI ty4)] fun c hc => ?_
 refine rs hc none [some (.new 1),some (.new 2),oN] [(1,sL ctx1),(2,sI budgets2),(4,sI ty4),(5,.ra 1 0),(8,.ra 2 0)] [(1,K1v s0),(2,K1x t3)] tv ?_
 obtain ⟨⟨a0,a1,a2⟩,a3,h⟩ := Qdd h
 refine rs hc none [oN,oN,oN,oc (.tup [sI a0,sI a1,.bool a2]),oN,oN,oN,oN,oN,oN,oN] [(2,sI budgets2),(4,sI ty4),(5,.ra 1 0),(11,sI a0),(12,sI a1),(13,.bool a2)] [(1,K1v s0)] (cq (Krf _ _ a3) K9g tv) ?_
 refine sN ?_
 obtain ⟨a4,a5,h⟩ := Qdd h
 refine Wp.into (x := .normal) (mkS [(10,.bool a4)] []) ?_ ?_
 ·replace h := a5
  rcases is h with ⟨a6,h⟩ | ⟨a6,h⟩
  ·obtain ⟨a7,a8,h⟩ := Qdd h
   rcases is h with ⟨a9,h⟩ | ⟨a9,h⟩
   ·obtain ⟨b1,b2,h⟩ := Qdd h
    refine rg hc none [oN,oN,oN,oN,oc (.bool a7),oT,oN,oN,oN,oN,oc (.bool b1),oT,oN] [(10,.bool b1)] [] (ar 3 a6 (cq (Ke9 _ _ a8) K4o (ai a6 (ar 4 a9 (cq (Krm _ _ b2) K9i (ai a9 tv)))))) ?_
    obtain rfl := os h
    exact Qcz.mk
   refine rg hc none [oN,oN,oN,oN,oc (.bool a7),oT,oN,o_,o_,o_,o_,oF,oN] [(10,.bool false)] [] (ar 3 a6 (cq (Ke9 _ _ a8) K4o (ai a6 (ar 4 (neT a9) (ai a9 tv))))) ?_
   obtain rfl := os h
   exact Qcz.mk
  refine rg hc none [oN,oN,o_,o_,o_,oF,oN,o_,o_,o_,o_,oF,oN] [(10,.bool false)] [] (ar 3 (neT a6) (ai a6 (ar 4 (neT (rfl : false = false)) (ai (rfl : false = false) tv)))) ?_
  obtain rfl := os h
  exact Qcz.mk
 clear a5
 refine rt ?_
 obtain rfl := os h
 exact rq [true]
def Krq (c : Ctx) (a0 : K00) (a1 : LL) (a2 : K01) (a3 : List Int) : (List Int) → Exit → Q0a → Prop
 | a4 => Qcz c (.exit 0) (mkS [(3,.ra 2 0),(4,sL a1),(6,.ra 3 0),(7,sI a3),(8,.rs 4)] [(2,K1v a0),(3,K1x a2),(4,rI a4)])
def Krr (p : (List Int) × K00 × LL × (List Int) × K01 × (List Int) × (List Int) × Int) : Option ((List Int)) :=
 match p with
 | (code0,a0,a1,a2,a3,a4,a5,a6) =>
  if (decide (a6 < (a2.length : Int))) = true then
  (idx a2 a6) >>= fun a7 =>
  (Kpr (code0,a6)) >>= fun a8 =>
  (chk (a0.fSize ≠ 0)) >>= fun _ =>
  (Kpx (a0,a7,(Int.tmod a8 a0.fSize))) >>= fun a9 =>
  (Qdq (a5.length + [a9].length) 8) >>= fun _ =>
  Krr (code0,a0,a1,a2,a3,a4,(a5 ++ [a9]),(wr (a6 + 1)))
  else
  some (a5)
 partial_fixpoint
def Krs (p : (List Int) × K00 × LL × (List Int) × K01 × (List Int) × (List Int) × Int) (fl : (List Int)) : Prop :=
 match p with
 | (code0,a0,a1,a2,a3,a4,a5,a6) => ∀ c : Ctx,c.nt = 84 → WpL Tryz.prog c (cl (cl (cr (cl (cr (cr (cr (cr (cr B12))))))))) (Krq c a0 a1 a3 a4 fl) (mkS [(0,.sl (List.map U8 code0)),(3,.ra 2 0),(4,sL a1),(5,.rs 1),(6,.ra 3 0),(7,sI a4),(8,.rs 4),(9,I a6)] [(1,rI a2),(2,K1v a0),(3,K1x a3),(4,rI a5)])
theorem Krt : ∀ p r,Krr p = some r → Krs p r := by
 refine Krr.partial_correctness Krs ?_
 rintro laws_FnFitsMore_l0_f laws_FnFitsMore_l0_ih ⟨code0,a0,a1,a2,a3,a4,a5,a6⟩ r h
 intro c hc
 refine WpL.step ?_
 refine sN ?_
 refine rss hc none [oN,oN,some (.eqv (.no) ⟨[(40,I (a2.length : Int))],[],[]⟩),oN] [(0,.sl (List.map U8 code0)),(3,.ra 2 0),(4,sL a1),(5,.rs 1),(6,.ra 3 0),(7,sI a4),(8,.rs 4),(9,I a6),(41,.bool (decide (a6 < (a2.length : Int))))] (ai (Qdj (d := 40) I a2) tv) ?_
 refine ic h (fun a7 h => ?_) fun a7 h => ?_
 ·refine sk ?_
  refine sN ?_
  refine bk 1 ?_
  obtain ⟨a8,a9,b1,b2,_,b3,b4,b5,h⟩ := bq4 h
  obtain ⟨_,b6,h⟩ := Qdd h
  refine rg hc (rx [[0],[0],[0],[0],[0,2,3],[0,2,3,4],[0],[0],[0,6,7],[0],[0,9],[0,6,7,8,9,10],[0,1,2,3,4,5,6,7,8,9,10,11],[0,1,2,3,4,5,6,7,8,9,10,11,12],[14],[15]]) [oN,oN,oN,oN,oN,some (.el (I a8)),oN,oN,oc (I b1),oN,oN,oN,oc (I b4),some (.mk 7 true),some (.eqv (.mk 8 true) ⟨[(58,.rs 8)],[(8,some (rI (a5 ++ [b4]))),(4,none),(7,none)],[8]⟩),oN] [(0,.sl (List.map U8 code0)),(3,.ra 2 0),(4,sL a1),(5,.rs 1),(6,.ra 3 0),(7,sI a4),(8,.rs 8),(9,I a6)] [(1,rI a2),(2,K1v a0),(3,K1x a3),(8,rI (a5 ++ [b4]))] (ab (Qdi (enc := I) a9) (ix a9).2 (cq (Kpt _ _ b2) K8t (ai (Qdf b3) (cq (Kpz _ _ b5) K8w (ab (congrArg (fun z => (⟨[(58,.rs 8)],[(8,some (.arr z)),(4,none),(7,none)],[8]⟩ : Wr)) ((List.map_append).symm : (List.map I a5) ++ (List.map I [b4]) = List.map I (a5 ++ [b4]))) (Qdr (enc1 := I) (enc2 := I) (e1 := a5) (e2 := [b4]) (sz := 1) Qe0 Qe0 b6) tv))))) ?_
  refine K9l hc 3 [(0,.sl (List.map U8 code0)),(3,.ra 2 0),(4,sL a1),(5,.rs 1),(6,.ra 3 0),(7,sI a4),(8,.rs 8),(9,I (wr (a6 + 1)))] ?_
  refine Qcv ?_
  exact WpL.view (fun a w hv => SRx.renL [(4,8)] hv (by kernel_rfl) (by kernel_rfl) (by kernel_rfl)) (laws_FnFitsMore_l0_ih _ _ h c hc)
 refine xt 0 ?_
 refine Qcp ?_
 refine Qcw ?_
 obtain rfl := os h
 exact iv []
def Kru (code0 : (List Int)) : Option (Bool) :=
 (K9o code0) >>= fun a0 =>
 if a0 = true then
 some true
 else
 (Kiq code0) >>= fun (a1,a2,a3,a4,a5) =>
 (Kpo (a1,a2,a3,a4,a5)) >>= fun a6 =>
 if a6 = true then
 (Krr (code0,a1,a2,a3,a4,a5,[],0)) >>= fun a7 =>
 (Kph (a1,a2,a4)) >>= fun (a8,a9,b1) =>
 ((
 if b1 = true then
 (Kpo (a1,a2,a7,a4,a5)) >>= fun b2 =>
 if b2 = true then
 (Kpo (a1,a2,a9,a4,a5)) >>= fun b3 =>
 some (b3)
 else
 some (false)
 else
 some (false)
 ) : Option (Bool)) >>= fun b4 =>
 some b4
 else
 (Krn (a1,a2,a3,a4,a5)) >>= fun b5 =>
 some (!b5)
def Krv (code0 : (List Int)) (r : Bool) : Prop :=
 Q71 Tryz.prog 12 [.sl (List.map U8 code0)] (.bool r) []
theorem Krw : ∀ p r,Kru p = some r → Krv p r := by
 rintro code0 r h
 unfold Kru at h
 refine b0 Tryz.f12 B12 84 [(0,.sl (List.map U8 code0))] fun c hc => ?_
 refine rs0 hc 1 [(0,.sl (List.map U8 code0))] [] ?_
 refine sN ?_
 obtain ⟨a0,a1,h⟩ := Qdd h
 refine rs hc none [oN,oc (.bool a0)] [(0,.sl (List.map U8 code0)),(14,.bool a0)] [] (cq (K9q _ _ a1) K35 tv) ?_
 refine ic h (fun a2 h => ?_) fun a2 h => ?_
 ·refine rs0 hc 1 [(2,.bool true)] [] ?_
  refine rt ?_
  obtain rfl := os h
  exact rq [true]
 refine sk ?_
 obtain ⟨⟨a3,a4,a5,a6,a7⟩,a8,h⟩ := Qdd h
 refine rs hc none [oN,oc (.tup [K1w a3,sL a4,oI a5,K1y a6,sI a7]),oN,oN,oN,oN,oN,oN,some (.new 2),some (.new 3),oN,oN,oN,oN,oN] [(0,.sl (List.map U8 code0)),(3,.ra 2 0),(4,sL a4),(5,.rs 1),(6,.ra 3 0),(7,sI a7)] [(1,rI a5),(2,K1v a3),(3,K1x a6)] (cq (Kis _ _ a8) K6i tv) ?_
 refine sN ?_
 obtain ⟨a9,b1,h⟩ := Qdd h
 refine rss hc none [oN,oN,oN,oN,oN,oc (.bool a9),oN] [(0,.sl (List.map U8 code0)),(3,.ra 2 0),(4,sL a4),(5,.rs 1),(6,.ra 3 0),(7,sI a7),(29,.bool (!a9))] (ac (Q71.args (A1 := [K1w a3,sL a4,.sl (Q02 (List.map I a5)),K1y a6,sI a7]) (A2 := [K1w a3,sL a4,sI a5,K1y a6,sI a7]) (by simp only [List.map_nil,Qe5]) (Kpq _ _ b1)) K8s (Or.inr rfl : ([1] : List Nat) = [] ∨ noSh (.bool a9) = true) tv) ?_
 rcases is h with ⟨b2,h⟩ | ⟨b2,h⟩
 ·refine cF (!a9) (nF b2) ?_
  refine sk ?_
  refine rs hc none [some (.mk 4 true),oN] [(0,.sl (List.map U8 code0)),(3,.ra 2 0),(4,sL a4),(5,.rs 1),(6,.ra 3 0),(7,sI a7),(8,.rs 4)] [(1,rI a5),(2,K1v a3),(3,K1x a6),(4,.arr (List.map I []))] tv ?_
  refine sN ?_
  refine K9m hc 1 [(0,.sl (List.map U8 code0)),(3,.ra 2 0),(4,sL a4),(5,.rs 1),(6,.ra 3 0),(7,sI a7),(8,.rs 4),(9,I 0)] ?_
  refine bk 0 ?_
  obtain ⟨b3,b4,h⟩ := Qdd h
  have hL := Krt _ _ b4 c hc
  refine lp ?_
  refine WpL.into (e := (.exit 0)) (mkS [(3,.ra 2 0),(4,sL a4),(6,.ra 3 0),(7,sI a7),(8,.rs 4)] [(2,K1v a3),(3,K1x a6),(4,rI b3)]) hL ?_
  refine Qcr ?_
  obtain ⟨⟨b5,b6,b7⟩,b8,h⟩ := Qdd h
  refine rs hc none [oN,oN,oN,some (.call (.tup [oI b5,oI b6,.bool b7]) [] 9),oN,oN,oN,oN,oN,oN,oN] [(3,.ra 2 0),(4,sL a4),(6,.ra 3 0),(7,sI a7),(8,.rs 4),(11,.rs 10),(12,.bool b7)] [(2,K1v a3),(3,K1x a6),(4,rI b3),(10,rI b6)] (cq (Kpj _ _ b8) K8r tv) ?_
  refine sN ?_
  obtain ⟨b9,c0,h⟩ := Qdd h
  refine Wp.into (x := .normal) (mkS [(2,.bool b9)] []) ?_ ?_
  ·replace h := c0
   rcases is h with ⟨c1,h⟩ | ⟨c1,h⟩
   ·obtain ⟨c2,c3,h⟩ := Qdd h
    rcases is h with ⟨c4,h⟩ | ⟨c4,h⟩
    ·obtain ⟨c5,c6,h⟩ := Qdd h
     refine rg hc none [oN,oN,oN,oN,oN,oN,oN,oc (.bool c2),oT,oN,oN,oN,oN,oN,oN,oc (.bool c5),oT,oN] [(2,.bool c5)] [] (ar 6 c1 (ad (Q71.args (A1 := [K1w a3,sL a4,.sl (Q02 (List.map I b3)),K1y a6,sI a7]) (A2 := [K1w a3,sL a4,sI b3,K1y a6,sI a7]) (by simp only [List.map_nil,Qe5]) (Kpq _ _ c3)) K8s (Or.inr rfl : ([4] : List Nat) = [] ∨ noSh (.bool c2) = true) c1 (ar 6 c4 (ad (Q71.args (A1 := [K1w a3,sL a4,.sl (Q02 (List.map I b6)),K1y a6,sI a7]) (A2 := [K1w a3,sL a4,sI b6,K1y a6,sI a7]) (by simp only [List.map_nil,Qe5]) (Kpq _ _ c6)) K8s (Or.inr rfl : ([10] : List Nat) = [] ∨ noSh (.bool c5) = true) c4 tv)))) ?_
     obtain rfl := os h
     exact Qcz.mk
    refine rg hc none [oN,oN,oN,oN,oN,oN,oN,oc (.bool c2),oT,oN,o_,o_,o_,o_,o_,o_,oF,oN] [(2,.bool false)] [] (ar 6 c1 (ad (Q71.args (A1 := [K1w a3,sL a4,.sl (Q02 (List.map I b3)),K1y a6,sI a7]) (A2 := [K1w a3,sL a4,sI b3,K1y a6,sI a7]) (by simp only [List.map_nil,Qe5]) (Kpq _ _ c3)) K8s (Or.inr rfl : ([4] : List Nat) = [] ∨ noSh (.bool c2) = true) c1 (ar 6 (neT c4) (ai c4 tv)))) ?_
    obtain rfl := os h
    exact Qcz.mk
   refine rg hc none [oN,oN,o_,o_,o_,o_,o_,o_,oF,oN,o_,o_,o_,o_,o_,o_,oF,oN] [(2,.bool false)] [] (ar 6 (neT c1) (ai c1 (ar 6 (neT (rfl : false = false)) (ai (rfl : false = false) tv)))) ?_
   obtain rfl := os h
   exact Qcz.mk
  clear c0
  refine rt ?_
  obtain rfl := os h
  exact rq [true]
 refine cT (!a9) (nT b2) ?_
 obtain ⟨c7,c8,h⟩ := Qdd h
 refine rs hc none [oN,oN,oN,oN,oN,oc (.bool c7),oN,oN] [(2,.bool (!c7))] [] (ac (Q71.args (A1 := [K1w a3,sL a4,.sl (Q02 (List.map I a5)),K1y a6,sI a7]) (A2 := [K1w a3,sL a4,sI a5,K1y a6,sI a7]) (by simp only [List.map_nil,Qe5]) (Krp _ _ c8)) K9j (Or.inr rfl : ([1] : List Nat) = [] ∨ noSh (.bool c7) = true) tv) ?_
 refine rt ?_
 obtain rfl := os h
 exact rq [true]
end Go.Am
