/- Functions of the program as pure functions,and that it computes them. Printed by a program of mine (gen.py). -/
import Derived.Test.YtkboikcppljkeaaGreatGDERF9
set_option linter.unusedVariables false
set_option linter.unusedSimpArgs false
set_option maxRecDepth 100000
namespace Go.Am
open Go Go.Proofs
def Kmq : Option (List (List Nat)) := rx [[0],[1],[2],[3],[4],[5],[6],[7],[8],[9],[10],[11],[8],[8,12],[8,12,13],[8,12,13,14],[8,12,13,14,15],[8,12,13,14,15,16],[8,12,13,14,15,16,17],[8,12,13,14,15,16,17,18],[8,12,13,14,15,16,17,18,19],[8,12,13,14,15,16,17,18,19,20],[8,12,13,14,15,16,17,18,19,20,21],[8,12,13,14,15,16,17,18,19,20,21,22],[24],[25],[26]]
mutual
def Kmr (p : K06 × LL × K01) : Option (K04) :=
 match p with
 | (p0,ctx1,t2) =>
  (chk (0 ≤ (ctx1.length : Int) ∧ (Int.toNat (ctx1.length : Int)) * 8 ≤ 140737488355328)) >>= fun _ =>
  (Kms (p0,ctx1,t2,[],[],[],0)) >>= fun fl => match fl with
  | .inl (a0,a1,a2) =>
   (Kmm (p0,(K04.mk [] (List.replicate (Int.toNat (ctx1.length : Int)) 0) a0 0 []),ctx1,t2,a1,a2)) >>= fun (a3,a4) =>
   if (a3 != 0) = true then
   some (K04.mk [] [] [] a3 [])
   else
   some (K04.mk a4.fty a4.fneeds a4.fkids a3 a4.fpath)
  | .inr r =>
   some r
 partial_fixpoint
def Kms (p : K06 × LL × K01 × (List K04) × LL × LL × Int) : Option (((List K04) × LL × LL) ⊕ (K04)) :=
 match p with
 | (p0,ctx1,t2,a0,a1,a2,a3) =>
  if (decide (a3 < (t2.fKids.length : Int))) = true then
  (idx t2.fKids a3) >>= fun a4 =>
  ((
  if (decide (a3 > 0)) = true then
  some (true)
  else
  some ((t2.fOp == 9))
  ) : Option (Bool)) >>= fun a5 =>
  ((
  if a5 = true then
  ((
  if (decide (a3 > 0)) = true then
  (idx a0 0) >>= fun a6 =>
  some (a6.fty)
  else
  some ([])
  ) : Option ((List Int))) >>= fun a7 =>
  (Kjj (t2,a3,a7)) >>= fun a8 =>
  some (a8)
  else
  some ([])
  ) : Option (LL)) >>= fun a9 =>
  (Kjx [a9,ctx1]) >>= fun b1 =>
  (Kmr (p0,b1,a4)) >>= fun b2 =>
  if (b2.ffault != 0) = true then
  (Qdq ([a3].length + b2.fpath.length) 8) >>= fun _ =>
  some (.inr (K04.mk [] [] [] b2.ffault ([a3] ++ b2.fpath)))
  else
  (Kk1 (p0,t2,a3,b2.fty)) >>= fun b3 =>
  if (b3 != 0) = true then
  some (.inr (K04.mk [] [] [] b3 []))
  else
  ((
  if (t2.fOp == 10) = true then
  if (a3 == 1) = true then
  (idx a0 0) >>= fun b4 =>
  (Kjg b4.fty) >>= fun b5 =>
  (idx b5 0) >>= fun b6 =>
  (Kk8 (b2.fty,b6)) >>= fun b7 =>
  some ((!b7))
  else
  some (false)
  else
  some (false)
  ) : Option (Bool)) >>= fun b8 =>
  if b8 = true then
  some (.inr (K04.mk [] [] [] 3 []))
  else
  (Qdq (a0.length + [b2].length) 8) >>= fun _ =>
  (cut b2.fneeds none (some (a9.length : Int)) none) >>= fun b9 =>
  (Qdq (a2.length + [b9].length) 24) >>= fun _ =>
  (cut b2.fneeds (some (a9.length : Int)) none none) >>= fun c0 =>
  (Qdq (a1.length + [c0].length) 24) >>= fun _ =>
  Kms (p0,ctx1,t2,(a0 ++ [b2]),(a1 ++ [c0]),(a2 ++ [b9]),(wr (a3 + 1)))
  else
  some (.inl (a0,a1,a2))
 partial_fixpoint
end
def Kmt (p : K06 × LL × K01) (r : K04) : Prop :=
 match p with
 | (p0,ctx1,t2) => Q71 Tryz.prog 86 [K2f p0,sL ctx1,K27 t2] (.ptr [sI r.fty,sI r.fneeds,.sl (List.map K0i r.fkids),I r.ffault,sI r.fpath] 0) []
def Kmu (p : K06 × LL × K01 × (List K04) × LL × LL × Int) (fl : ((List K04) × LL × LL) ⊕ (K04)) : Prop :=
 match p with
 | (p0,ctx1,t2,a0,a1,a2,a3) => ∀ c : Ctx,c.nt = 171 → WpL Tryz.prog c (cl (cl (cr (cl (cr (cr (cr (cr B86)))))))) (Kmp c p0 ctx1 t2 fl) (mkS [(1,sL ctx1),(3,.ra 1 0),(5,.ra 2 0),(7,.ra 4 0),(8,.rs 21),(9,.rs 22),(22,.sl (List.map K0s t2.fKids)),(23,I (t2.fKids.length : Int)),(24,I a3)] [(1,K2e p0),(2,K26 t2),(3,.arr (List.map I (List.replicate (Int.toNat (ctx1.length : Int)) 0))),(4,.box [.nils,.rs 3,.rs 20,I 0,.nils]),(20,.arr (List.map K0i a0)),(21,.arr (List.map K07 a1)),(22,.arr (List.map K07 a2))])
theorem Kmv : (∀ p r,Kmr p = some r → Kmt p r) ∧ (∀ p r,Kms p = some r → Kmu p r) := by
 refine Kmr.mutual_partial_correctness Kmt Kmu ?_ ?_
 ·rintro impl_typertyp_l0_f impl_typertyp_l0_ih ⟨p0,ctx1,t2⟩ r h
  refine b0 Tryz.f86 B86 171 [(0,K2f p0),(1,sL ctx1),(2,K27 t2)] fun c hc => ?_
  refine rs hc none [some (.new 1),some (.new 2),oN] [(1,sL ctx1),(3,.ra 1 0),(5,.ra 2 0)] [(1,K2e p0),(2,K26 t2)] tv ?_
  obtain ⟨_,a0,h⟩ := Qdd h
  refine rs hc none [oN,some (.eqv (.no) ⟨[(17,I (ctx1.length : Int))],[],[]⟩),some (.eqv (.mk 3 true) ⟨[(18,.rs 3)],[(3,some (.arr (List.map I (List.replicate (Int.toNat (ctx1.length : Int)) 0))))],[3]⟩),oN,some (.new 4),oN] [(1,sL ctx1),(3,.ra 1 0),(5,.ra 2 0),(7,.ra 4 0)] [(1,K2e p0),(2,K26 t2),(3,.arr (List.map I (List.replicate (Int.toNat (ctx1.length : Int)) 0))),(4,.box [.nils,.rs 3,.nils,I 0,.nils])] (ac (Qdj (d := 17) K07 ctx1) (congrArg (fun z => (⟨[(18,.rs 3)],[(3,some (.arr z))],[3]⟩ : Wr)) (Qei (enc := I) (n := Int.toNat (ctx1.length : Int)) (x := I 0) (Qds 0))) (And.intro (Eq.refl (ctx1.length : Int)) (Qdf a0)) tv) ?_
  refine K88 hc 1 [(1,sL ctx1),(3,.ra 1 0),(5,.ra 2 0),(7,.ra 4 0),(8,.nils)] ?_
  refine K88 hc 1 [(1,sL ctx1),(3,.ra 1 0),(5,.ra 2 0),(7,.ra 4 0),(8,.nils),(9,.nils)] ?_
  refine sN ?_
  refine rss hc none [oN,oN,some (.eqv (.no) ⟨[(23,I (t2.fKids.length : Int))],[],[]⟩),oN] [(1,sL ctx1),(3,.ra 1 0),(5,.ra 2 0),(7,.ra 4 0),(8,.nils),(9,.nils),(22,.sl (List.map K0s t2.fKids)),(23,I (t2.fKids.length : Int)),(24,I 0)] (ai (Qdj (d := 23) K0s t2.fKids) tv) ?_
  refine bk 0 ?_
  obtain ⟨fl,a1,h⟩ := Qdd h
  have hL := impl_typertyp_l0_ih _ _ a1 c hc
  refine Wp.loopN (by kernel_rfl) (WpL.view (fun a w hv => SRx.renL [(20,57),(21,58),(22,59)] (SRx.nilTL 9 59 (SRx.nilTL 8 58 (SRx.nilBL 4 2 57 [.nils,.rs 3,.nils,I 0,.nils] hv (by kernel_rfl) (by kernel_rfl) (by kernel_rfl)) (by kernel_rfl) (by kernel_rfl)) (by kernel_rfl) (by kernel_rfl)) (by kernel_rfl) (by kernel_rfl) (by kernel_rfl)) (?_ : WpL _ c _ _ (mkS [(1,sL ctx1),(3,.ra 1 0),(5,.ra 2 0),(7,.ra 4 0),(8,.rs 21),(9,.rs 22),(22,.sl (List.map K0s t2.fKids)),(23,I (t2.fKids.length : Int)),(24,I 0)] [(1,K2e p0),(2,K26 t2),(3,.arr (List.map I (List.replicate (Int.toNat (ctx1.length : Int)) 0))),(4,.box [.nils,.rs 3,.rs 20,I 0,.nils]),(20,.arr (List.map K0i [])),(21,.arr (List.map K07 [])),(22,.arr (List.map K07 []))])))
  rcases fl with ⟨a2,a3,a4⟩ | r
  ·refine WpL.into (e := (.exit 0)) (mkS [(1,sL ctx1),(3,.ra 1 0),(5,.ra 2 0),(7,.ra 4 0),(8,.rs 21),(9,.rs 22)] [(1,K2e p0),(2,K26 t2),(3,.arr (List.map I (List.replicate (Int.toNat (ctx1.length : Int)) 0))),(4,.box [.nils,.rs 3,.rs 20,I 0,.nils]),(20,.arr (List.map K0i a2)),(21,.arr (List.map K07 a3)),(22,.arr (List.map K07 a4))]) hL ?_
   refine Qcr ?_
   refine sN ?_
   refine vz 21 (K0b a3) [(1,sL ctx1),(3,.ra 1 0),(5,.ra 2 0),(7,.ra 4 0),(8,sL a3),(9,.rs 22)] [(1,K2e p0),(2,K26 t2),(3,.arr (List.map I (List.replicate (Int.toNat (ctx1.length : Int)) 0))),(4,.box [.nils,.rs 3,.rs 20,I 0,.nils]),(20,.arr (List.map K0i a2)),(22,.arr (List.map K07 a4))] ?_
   refine vz 22 (K0b a4) [(1,sL ctx1),(3,.ra 1 0),(5,.ra 2 0),(7,.ra 4 0),(8,sL a3),(9,sL a4)] [(1,K2e p0),(2,K26 t2),(3,.arr (List.map I (List.replicate (Int.toNat (ctx1.length : Int)) 0))),(4,.box [.nils,.rs 3,.rs 20,I 0,.nils]),(20,.arr (List.map K0i a2))] ?_
   obtain ⟨⟨a5,a6⟩,a7,h⟩ := Qdd h
   refine rg hc none [oN,oN,oN,oN,oN,oN,oN,some (.call (I a5) [.undef,.optr [sI a6.fty,sI a6.fneeds,.sl (List.map K0i a6.fkids),I a6.ffault,sI a6.fpath],.undef,.undef,.undef,.undef] 1),oN,oN,oN] [(7,.ra 4 0)] [(4,.box [sI a6.fty,sI a6.fneeds,.sl (List.map K0i a6.fkids),I a5,sI a6.fpath])] (ab (Kmo _ _ a7) K7i tv) ?_
   refine sN ?_
   refine K88 hc 5 [(7,.ra 4 0),(163,.bool (a5 != 0))] ?_
   refine ic h (fun a8 h => ?_) fun a8 h => ?_
   ·refine rs hc none [oN,oN,oN,oN,oN,some (.new 60),oN] [(6,.ra 60 0)] [(60,.box [.nils,.nils,.nils,I a5,.nils])] tv ?_
    refine vb 60 [.nils,.nils,.nils,I a5,.nils] [(6,.ptr [.sl (List.map I []),.sl (List.map I []),.sl (List.map K0i []),I a5,.sl (List.map I [])] 0)] [] ?_
    refine rt ?_
    obtain rfl := os h
    exact rq [false]
   refine sk ?_
   refine K88 hc 2 [(6,.ra 4 0)] ?_
   refine vb 4 [sI a6.fty,sI a6.fneeds,.sl (List.map K0i a6.fkids),I a5,sI a6.fpath] [(6,.ptr [sI a6.fty,sI a6.fneeds,.sl (List.map K0i a6.fkids),I a5,sI a6.fpath] 0)] [] ?_
   refine rt ?_
   obtain rfl := os h
   exact rq [false]
  refine WpL.mono hL ?_
  rintro _ _ ⟨rfl,hfin⟩
  obtain rfl := os h
  exact ⟨.inl rfl,hfin⟩
 ·rintro impl_typertyp_f impl_typertyp_l0_f impl_typertyp_ih impl_typertyp_l0_ih ⟨p0,ctx1,t2,a9,b1,b2,b3⟩ r h
  intro c hc
  refine WpL.step ?_
  refine K88 hc 1 [(1,sL ctx1),(3,.ra 1 0),(5,.ra 2 0),(7,.ra 4 0),(8,.rs 21),(9,.rs 22),(22,.sl (List.map K0s t2.fKids)),(23,I (t2.fKids.length : Int)),(24,I b3),(25,.bool (decide (b3 < (t2.fKids.length : Int))))] ?_
  refine sN ?_
  refine ic h (fun b4 h => ?_) fun b4 h => ?_
  ·refine sk ?_
   refine sN ?_
   refine bk 1 ?_
   obtain ⟨b5,b6,h⟩ := Qdd h
   refine rs hc none [oN,some (.el (K27 b5)),oN,some (.new 40),oN,oN] [(1,sL ctx1),(3,.ra 1 0),(5,.ra 2 0),(7,.ra 4 0),(8,.rs 21),(9,.rs 22),(10,I b3),(11,.ra 40 0),(22,.sl (List.map K0s t2.fKids)),(23,I (t2.fKids.length : Int)),(24,I b3)] [(1,K2e p0),(2,K26 t2),(3,.arr (List.map I (List.replicate (Int.toNat (ctx1.length : Int)) 0))),(4,.box [.nils,.rs 3,.rs 20,I 0,.nils]),(20,.arr (List.map K0i a9)),(21,.arr (List.map K07 b1)),(22,.arr (List.map K07 b2)),(40,K26 b5)] (ai (Qdh b6 (K0z b5)) tv) ?_
   refine K88 hc 1 [(1,sL ctx1),(3,.ra 1 0),(5,.ra 2 0),(7,.ra 4 0),(8,.rs 21),(9,.rs 22),(10,I b3),(11,.ra 40 0),(12,.nils),(22,.sl (List.map K0s t2.fKids)),(23,I (t2.fKids.length : Int)),(24,I b3)] ?_
   refine sN ?_
   refine sN ?_
   obtain ⟨b7,b8,h⟩ := Qdd h
   refine Wp.into (x := .normal) (mkS [(1,sL ctx1),(3,.ra 1 0),(5,.ra 2 0),(7,.ra 4 0),(8,.rs 21),(9,.rs 22),(10,I b3),(11,.ra 40 0),(12,.nils),(22,.sl (List.map K0s t2.fKids)),(23,I (t2.fKids.length : Int)),(24,I b3),(35,.bool b7)] [(1,K2e p0),(2,K26 t2),(3,.arr (List.map I (List.replicate (Int.toNat (ctx1.length : Int)) 0))),(4,.box [.nils,.rs 3,.rs 20,I 0,.nils]),(20,.arr (List.map K0i a9)),(21,.arr (List.map K07 b1)),(22,.arr (List.map K07 b2)),(40,K26 b5)]) ?_ ?_
   ·replace h := b8
    rcases is h with ⟨b9,h⟩ | ⟨b9,h⟩
    ·refine rgs hc none [oN,oN,oN,o_,o_,o_,oT] [(1,sL ctx1),(3,.ra 1 0),(5,.ra 2 0),(7,.ra 4 0),(8,.rs 21),(9,.rs 22),(10,I b3),(11,.ra 40 0),(12,.nils),(22,.sl (List.map K0s t2.fKids)),(23,I (t2.fKids.length : Int)),(24,I b3),(35,.bool true)] (ar 3 (neF b9) (ai b9 tv)) ?_
     obtain rfl := os h
     exact Qcz.mk
    refine rgs hc none [oN,oN,oN,oN,oN,oN,oF] [(1,sL ctx1),(3,.ra 1 0),(5,.ra 2 0),(7,.ra 4 0),(8,.rs 21),(9,.rs 22),(10,I b3),(11,.ra 40 0),(12,.nils),(22,.sl (List.map K0s t2.fKids)),(23,I (t2.fKids.length : Int)),(24,I b3),(35,.bool (t2.fOp == 9))] (ar 4 b9 tv) ?_
    obtain rfl := os h
    exact Qcz.mk
   clear b8
   obtain ⟨c0,c1,h⟩ := Qdd h
   refine Wp.into (x := .normal) (mkS [(1,sL ctx1),(3,.ra 1 0),(5,.ra 2 0),(7,.ra 4 0),(8,.rs 21),(9,.rs 22),(10,I b3),(11,.ra 40 0),(12,.rs 41),(22,.sl (List.map K0s t2.fKids)),(23,I (t2.fKids.length : Int)),(24,I b3)] [(1,K2e p0),(2,K26 t2),(3,.arr (List.map I (List.replicate (Int.toNat (ctx1.length : Int)) 0))),(4,.box [.nils,.rs 3,.rs 20,I 0,.nils]),(20,.arr (List.map K0i a9)),(21,.arr (List.map K07 b1)),(22,.arr (List.map K07 b2)),(40,K26 b5),(41,.arr (List.map K07 c0))]) ?_ ?_
   ·replace h := c1
    refine ic h (fun c2 h => ?_) fun c2 h => ?_
    ·refine K88 hc 1 [(1,sL ctx1),(3,.ra 1 0),(5,.ra 2 0),(7,.ra 4 0),(8,.rs 21),(9,.rs 22),(10,I b3),(11,.ra 40 0),(13,.nils),(22,.sl (List.map K0s t2.fKids)),(23,I (t2.fKids.length : Int)),(24,I b3)] ?_
     refine sN ?_
     refine K88 hc 2 [(1,sL ctx1),(3,.ra 1 0),(5,.ra 2 0),(7,.ra 4 0),(8,.rs 21),(9,.rs 22),(10,I b3),(11,.ra 40 0),(13,.nils),(22,.sl (List.map K0s t2.fKids)),(23,I (t2.fKids.length : Int)),(24,I b3),(37,.bool (decide (b3 > 0)))] ?_
     obtain ⟨c3,c4,h⟩ := Qdd h
     refine Wp.into (x := .normal) (mkS [(1,sL ctx1),(3,.ra 1 0),(5,.ra 2 0),(7,.ra 4 0),(8,.rs 21),(9,.rs 22),(10,I b3),(11,.ra 40 0),(13,sI c3),(22,.sl (List.map K0s t2.fKids)),(23,I (t2.fKids.length : Int)),(24,I b3)] [(1,K2e p0),(2,K26 t2),(3,.arr (List.map I (List.replicate (Int.toNat (ctx1.length : Int)) 0))),(4,.box [.nils,.rs 3,.rs 20,I 0,.nils]),(20,.arr (List.map K0i a9)),(21,.arr (List.map K07 b1)),(22,.arr (List.map K07 b2)),(40,K26 b5)]) ?_ ?_
     ·replace h := c4
      refine ic h (fun c5 h => ?_) fun c5 h => ?_
      ·obtain ⟨c6,c7,h⟩ := Qdd h
       refine rgs hc none [oN,oN,oN,oN,oN,some (.el (.ptr [sI c6.fty,sI c6.fneeds,.sl (List.map K0i c6.fkids),I c6.ffault,sI c6.fpath] 0)),oN,oN,oN,oN] [(1,sL ctx1),(3,.ra 1 0),(5,.ra 2 0),(7,.ra 4 0),(8,.rs 21),(9,.rs 22),(10,I b3),(11,.ra 40 0),(13,sI c6.fty),(22,.sl (List.map K0s t2.fKids)),(23,I (t2.fKids.length : Int)),(24,I b3)] (ab (Qdi (enc := K0i) c7) (Qdh (enc := K0i) (x := .ptr [sI c6.fty,sI c6.fneeds,.sl (List.map K0i c6.fkids),I c6.ffault,sI c6.fpath] 0) c7 (K0l c6)).2 tv) ?_
       obtain rfl := os h
       exact Qcz.mk
      refine sk ?_
      obtain rfl := os h
      exact Qcz.view (fun a w hv => SRx.renL [] (SRx.nilSL 13 hv (by kernel_rfl)) (by kernel_rfl) (by kernel_rfl) (by kernel_rfl))
     clear c4
     obtain ⟨c8,c9,h⟩ := Qdd h
     refine rg hc none [oN,oN,oN,some (.call (.osl (List.map K07 c8)) [] 41),oN] [(1,sL ctx1),(3,.ra 1 0),(5,.ra 2 0),(7,.ra 4 0),(8,.rs 21),(9,.rs 22),(10,I b3),(11,.ra 40 0),(12,.rs 41),(22,.sl (List.map K0s t2.fKids)),(23,I (t2.fKids.length : Int)),(24,I b3)] [(1,K2e p0),(2,K26 t2),(3,.arr (List.map I (List.replicate (Int.toNat (ctx1.length : Int)) 0))),(4,.box [.nils,.rs 3,.rs 20,I 0,.nils]),(20,.arr (List.map K0i a9)),(21,.arr (List.map K07 b1)),(22,.arr (List.map K07 b2)),(40,K26 b5),(41,.arr (List.map K07 c8))] (cq (Kjl _ _ c9) K6m tv) ?_
     obtain rfl := os h
     exact Qcz.mk
    refine sk ?_
    obtain rfl := os h
    exact Qcz.view (fun a w hv => SRx.renL [(41,42)] (SRx.nilTL 12 42 hv (by kernel_rfl) (by kernel_rfl)) (by kernel_rfl) (by kernel_rfl) (by kernel_rfl))
   clear c1
   refine sN ?_
   refine vz 41 (K0b c0) [(1,sL ctx1),(3,.ra 1 0),(5,.ra 2 0),(7,.ra 4 0),(8,.rs 21),(9,.rs 22),(10,I b3),(11,.ra 40 0),(12,sL c0),(22,.sl (List.map K0s t2.fKids)),(23,I (t2.fKids.length : Int)),(24,I b3)] [(1,K2e p0),(2,K26 t2),(3,.arr (List.map I (List.replicate (Int.toNat (ctx1.length : Int)) 0))),(4,.box [.nils,.rs 3,.rs 20,I 0,.nils]),(20,.arr (List.map K0i a9)),(21,.arr (List.map K07 b1)),(22,.arr (List.map K07 b2)),(40,K26 b5)] ?_
   obtain ⟨d0,d1,d2,d3,h⟩ := bq2 h
   refine rg hc (rx [[0],[0],[0],[0,1,2],[0,1,2,3],[0],[6],[7]]) [oN,oN,oN,some (.mk 44 false),some (.call (sL d0) [.tup []] 1),oN,oc (.ptr [sI d2.fty,sI d2.fneeds,.sl (List.map K0i d2.fkids),I d2.ffault,sI d2.fpath] 0),oN] [(1,sL ctx1),(3,.ra 1 0),(5,.ra 2 0),(7,.ra 4 0),(8,.rs 21),(9,.rs 22),(10,I b3),(12,sL c0),(14,.ptr [sI d2.fty,sI d2.fneeds,.sl (List.map K0i d2.fkids),I d2.ffault,sI d2.fpath] 0),(22,.sl (List.map K0s t2.fKids)),(23,I (t2.fKids.length : Int)),(24,I b3)] [(1,K2e p0),(2,K26 t2),(3,.arr (List.map I (List.replicate (Int.toNat (ctx1.length : Int)) 0))),(4,.box [.nils,.rs 3,.rs 20,I 0,.nils]),(20,.arr (List.map K0i a9)),(21,.arr (List.map K07 b1)),(22,.arr (List.map K07 b2))] (ab (Q71.args (A1 := [.sl (Q02 (List.map K1u [c0,ctx1]))]) (A2 := [.sl (List.map K1u [c0,ctx1])]) (by simp only [List.map_nil,K1y]) (Kjz _ _ d1)) K6p (cq (impl_typertyp_ih _ _ d3) K6q tv)) ?_
   refine sN ?_
   refine K88 hc 5 [(1,sL ctx1),(3,.ra 1 0),(5,.ra 2 0),(7,.ra 4 0),(8,.rs 21),(9,.rs 22),(10,I b3),(12,sL c0),(14,.ptr [sI d2.fty,sI d2.fneeds,.sl (List.map K0i d2.fkids),I d2.ffault,sI d2.fpath] 0),(22,.sl (List.map K0s t2.fKids)),(23,I (t2.fKids.length : Int)),(24,I b3),(62,.bool (d2.ffault != 0))] ?_
   refine ic h (fun d4 h => ?_) fun d4 h => ?_
   ·obtain ⟨_,d5,h⟩ := Qdd h
    refine rs hc (rx [[0],[1],[2],[3],[0],[0,4],[0],[0,6],[0,6,7],[0,6,7,8],[0,4,5,6,7,8,9],[11],[12],[13]]) [oN,oN,oN,oN,oN,some (.mk 45 true),oN,oN,oN,oN,some (.eqv (.mk 46 true) ⟨[(73,.rs 46)],[(46,some (rI ([b3] ++ d2.fpath))),(45,none)],[46]⟩),oN,some (.new 47),oN] [(6,.ra 47 0)] [(46,rI ([b3] ++ d2.fpath)),(47,.box [.nils,.nils,.nils,I d2.ffault,.rs 46])] (ab (congrArg (fun z => (⟨[(73,.rs 46)],[(46,some (.arr z)),(45,none)],[46]⟩ : Wr)) ((List.map_append).symm : (List.map I [b3]) ++ (List.map I d2.fpath) = List.map I ([b3] ++ d2.fpath))) (Qdr (enc1 := I) (enc2 := I) (e1 := [b3]) (e2 := d2.fpath) (sz := 1) Qe0 Qe0 d5) tv) ?_
    refine vz 46 (Qe5 ([b3] ++ d2.fpath)) [(6,.ra 47 0)] [(47,.box [.nils,.nils,.nils,I d2.ffault,sI ([b3] ++ d2.fpath)])] ?_
    refine vb 47 [.nils,.nils,.nils,I d2.ffault,sI ([b3] ++ d2.fpath)] [(6,.ptr [.sl (List.map I []),.sl (List.map I []),.sl (List.map K0i []),I d2.ffault,sI ([b3] ++ d2.fpath)] 0)] [] ?_
    refine rt ?_
    obtain rfl := os h
    exact re [false]
   refine sk ?_
   refine sN ?_
   obtain ⟨d6,d7,h⟩ := Qdd h
   refine rss hc (rx [[0],[0],[0],[0],[0,3],[0,3,4],[0,3,4,5],[7],[8]]) [oN,oN,oN,oN,oN,oN,oN,oc (I d6),oN] [(1,sL ctx1),(3,.ra 1 0),(5,.ra 2 0),(7,.ra 4 0),(8,.rs 21),(9,.rs 22),(10,I b3),(12,sL c0),(14,.ptr [sI d2.fty,sI d2.fneeds,.sl (List.map K0i d2.fkids),I d2.ffault,sI d2.fpath] 0),(15,I d6),(22,.sl (List.map K0s t2.fKids)),(23,I (t2.fKids.length : Int)),(24,I b3)] (cq (Kk3 _ _ d7) K6r tv) ?_
   refine K88 hc 2 [(1,sL ctx1),(3,.ra 1 0),(5,.ra 2 0),(7,.ra 4 0),(8,.rs 21),(9,.rs 22),(10,I b3),(12,sL c0),(14,.ptr [sI d2.fty,sI d2.fneeds,.sl (List.map K0i d2.fkids),I d2.ffault,sI d2.fpath] 0),(15,I d6),(22,.sl (List.map K0s t2.fKids)),(23,I (t2.fKids.length : Int)),(24,I b3),(85,.bool (d6 != 0))] ?_
   refine ic h (fun d8 h => ?_) fun d8 h => ?_
   ·refine rs hc none [oN,oN,some (.new 48),oN] [(6,.ra 48 0)] [(48,.box [.nils,.nils,.nils,I d6,.nils])] tv ?_
    refine vb 48 [.nils,.nils,.nils,I d6,.nils] [(6,.ptr [.sl (List.map I []),.sl (List.map I []),.sl (List.map K0i []),I d6,.sl (List.map I [])] 0)] [] ?_
    refine rt ?_
    obtain rfl := os h
    exact re [false]
   refine sk ?_
   refine sN ?_
   refine sN ?_
   obtain ⟨d9,e0,h⟩ := Qdd h
   refine Wp.into (x := .normal) (mkS [(1,sL ctx1),(3,.ra 1 0),(5,.ra 2 0),(7,.ra 4 0),(8,.rs 21),(9,.rs 22),(12,sL c0),(14,.ptr [sI d2.fty,sI d2.fneeds,.sl (List.map K0i d2.fkids),I d2.ffault,sI d2.fpath] 0),(22,.sl (List.map K0s t2.fKids)),(23,I (t2.fKids.length : Int)),(24,I b3),(115,.bool d9)] [(1,K2e p0),(2,K26 t2),(3,.arr (List.map I (List.replicate (Int.toNat (ctx1.length : Int)) 0))),(4,.box [.nils,.rs 3,.rs 20,I 0,.nils]),(20,.arr (List.map K0i a9)),(21,.arr (List.map K07 b1)),(22,.arr (List.map K07 b2))]) ?_ ?_
   ·replace h := e0
    rcases is h with ⟨e3,h⟩ | ⟨e3,h⟩
    ·rcases is h with ⟨e4,h⟩ | ⟨e4,h⟩
     ·obtain ⟨e5,e6,e7,e8,e9,f0,f1,f2,h⟩ := bq4 h
      refine rgs hc Kmq [oN,oN,oN,oN,oN,oN,oT,oN,oN,oN,oN,oN,oN,oN,oN,oN,oN,some (.el (.ptr [sI e5.fty,sI e5.fneeds,.sl (List.map K0i e5.fkids),I e5.ffault,sI e5.fpath] 0)),oN,oN,oN,some (.call (.osl (List.map K07 e7)) [] 49),oN,some (.el (sI e9)),oc (.bool f1),oN,oT] [(1,sL ctx1),(3,.ra 1 0),(5,.ra 2 0),(7,.ra 4 0),(8,.rs 21),(9,.rs 22),(12,sL c0),(14,.ptr [sI d2.fty,sI d2.fneeds,.sl (List.map K0i d2.fkids),I d2.ffault,sI d2.fpath] 0),(22,.sl (List.map K0s t2.fKids)),(23,I (t2.fKids.length : Int)),(24,I b3),(115,.bool (!f1))] (ar 3 e3 (ar 9 e4 (ac (Qdi (enc := K0i) e6) e4 (Qdh (enc := K0i) (x := .ptr [sI e5.fty,sI e5.fneeds,.sl (List.map K0i e5.fkids),I e5.ffault,sI e5.fpath] 0) e6 (K0l e5)).2 (ar 4 e4 (cq (Kji _ _ e8) K6l (ad e4 (Qdi (enc := K07) f0) e4 (xL f0).2 (ai e4 (cq (Kka _ _ f2) K6s (ar 2 e4 tv))))))))) ?_
      obtain rfl := os h
      exact Qcz.mk
     refine rgs hc Kmq [oN,oN,oN,oN,oN,oN,oT,oN,o_,o_,o_,o_,o_,o_,o_,o_,o_,o_,o_,o_,o_,o_,o_,o_,o_,o_,oF] [(1,sL ctx1),(3,.ra 1 0),(5,.ra 2 0),(7,.ra 4 0),(8,.rs 21),(9,.rs 22),(12,sL c0),(14,.ptr [sI d2.fty,sI d2.fneeds,.sl (List.map K0i d2.fkids),I d2.ffault,sI d2.fpath] 0),(22,.sl (List.map K0s t2.fKids)),(23,I (t2.fKids.length : Int)),(24,I b3),(115,.bool false)] (ar 3 e3 (ar 18 (neT e4) (ai e4 tv))) ?_
     obtain rfl := os h
     exact Qcz.mk
    refine rgs hc Kmq [oN,oN,oN,oN,o_,o_,oF,oN,o_,o_,o_,o_,o_,o_,o_,o_,o_,o_,o_,o_,o_,o_,o_,o_,o_,o_,oF] [(1,sL ctx1),(3,.ra 1 0),(5,.ra 2 0),(7,.ra 4 0),(8,.rs 21),(9,.rs 22),(12,sL c0),(14,.ptr [sI d2.fty,sI d2.fneeds,.sl (List.map K0i d2.fkids),I d2.ffault,sI d2.fpath] 0),(22,.sl (List.map K0s t2.fKids)),(23,I (t2.fKids.length : Int)),(24,I b3),(115,.bool false)] (ar 2 (neT e3) (ai e3 (ar 18 (neT (rfl : false = false)) (ai (rfl : false = false) tv)))) ?_
    obtain rfl := os h
    exact Qcz.mk
   clear e0
   refine ic h (fun f3 h => ?_) fun f3 h => ?_
   ·refine rs hc none [oN,some (.new 50),oN] [(6,.ra 50 0)] [(50,.box [.nils,.nils,.nils,I 3,.nils])] tv ?_
    refine vb 50 [.nils,.nils,.nils,I 3,.nils] [(6,.ptr [.sl (List.map I []),.sl (List.map I []),.sl (List.map K0i []),I 3,.sl (List.map I [])] 0)] [] ?_
    refine rt ?_
    obtain rfl := os h
    exact re [false]
   refine sk ?_
   obtain ⟨_,f4,h⟩ := Qdd h
   refine rs hc none [oN,oN,oN,oN,oN,oN,some (.eqv (.mk 51 false) ⟨[(124,.rs 51)],[(51,some (.arr (List.map K0i [d2])))],[51]⟩),some (.eqv (.mk 52 true) ⟨[(125,.rs 52)],[(52,some (.arr (List.map K0i (a9 ++ [d2])))),(20,none),(51,none)],[52]⟩),oN,oN,oN] [(1,sL ctx1),(3,.ra 1 0),(5,.ra 2 0),(7,.ra 4 0),(8,.rs 21),(9,.rs 22),(12,sL c0),(14,.ptr [sI d2.fty,sI d2.fneeds,.sl (List.map K0i d2.fkids),I d2.ffault,sI d2.fpath] 0),(22,.sl (List.map K0s t2.fKids)),(23,I (t2.fKids.length : Int)),(24,I b3)] [(1,K2e p0),(2,K26 t2),(3,.arr (List.map I (List.replicate (Int.toNat (ctx1.length : Int)) 0))),(4,.box [.nils,.rs 3,.rs 52,I 0,.nils]),(21,.arr (List.map K07 b1)),(22,.arr (List.map K07 b2)),(52,.arr (List.map K0i (a9 ++ [d2])))] (ac (congrArg (fun z => (⟨[(124,.rs 51)],[(51,some (.arr z))],[51]⟩ : Wr)) ((Qek (K0l d2) Qej) : [AV.ptr [sI d2.fty,sI d2.fneeds,.sl (List.map K0i d2.fkids),I d2.ffault,sI d2.fpath] 0] = List.map K0i [d2])) (congrArg (fun z => (⟨[(125,.rs 52)],[(52,some (.arr z)),(20,none),(51,none)],[52]⟩ : Wr)) ((List.map_append).symm : (List.map K0i a9) ++ (List.map K0i [d2]) = List.map K0i (a9 ++ [d2]))) (Qdr (enc1 := K0i) (enc2 := K0i) (e1 := a9) (e2 := [d2]) (sz := 1) K0o K0o f4) tv) ?_
   obtain ⟨f5,f6,_,f7,f8,f9,_,g0,h⟩ := bq4 h
   refine rg hc (rx [[0],[0],[0,1],[0,1,2],[0,1,2,3],[0],[0,5],[0,1,2,3,4,5,6],[0,1,2,3,4,5,6,7],[9],[0],[0],[0,11],[0,11,12],[0,11,12,13],[0],[0,15],[0,11,12,13,14,15,16],[0,11,12,13,14,15,16,17],[19],[20],[21]]) [oN,oN,oN,oN,oN,oN,some (.eqv (.no) ⟨[(134,I (c0.length : Int))],[],[]⟩),some (.eqv (.no) ⟨[(135,sI f5)],[],[]⟩),some (.mk 53 false),some (.eqv (.mk 54 true) ⟨[(137,.rs 54)],[(54,some (.arr (List.map K07 (b2 ++ [f5])))),(22,none),(53,none)],[54]⟩),oN,oN,oN,oN,oN,oN,some (.eqv (.no) ⟨[(144,I (c0.length : Int))],[],[]⟩),some (.eqv (.no) ⟨[(145,sI f8)],[],[]⟩),some (.mk 55 false),some (.eqv (.mk 56 true) ⟨[(147,.rs 56)],[(56,some (.arr (List.map K07 (b1 ++ [f8])))),(21,none),(55,none)],[56]⟩),oN,oN] [(1,sL ctx1),(3,.ra 1 0),(5,.ra 2 0),(7,.ra 4 0),(8,.rs 56),(9,.rs 54),(22,.sl (List.map K0s t2.fKids)),(23,I (t2.fKids.length : Int)),(24,I b3)] [(1,K2e p0),(2,K26 t2),(3,.arr (List.map I (List.replicate (Int.toNat (ctx1.length : Int)) 0))),(4,.box [.nils,.rs 3,.rs 52,I 0,.nils]),(52,.arr (List.map K0i (a9 ++ [d2]))),(54,.arr (List.map K07 (b2 ++ [f5]))),(56,.arr (List.map K07 (b1 ++ [f8])))] (ad (Qdj (d := 134) K07 c0) (Qdm (d := 135) I f6) (Qdl (enc := I) (sz := 1) Qdw f6) (congrArg (fun z => (⟨[(137,.rs 54)],[(54,some (.arr z)),(22,none),(53,none)],[54]⟩ : Wr)) ((List.map_append).symm : (List.map K07 b2) ++ (List.map K07 [f5]) = List.map K07 (b2 ++ [f5]))) (ad (Qdr (enc1 := K07) (enc2 := K07) (e1 := b2) (e2 := [f5]) (sz := 1) K0a K0a f7) (Qdj (d := 144) K07 c0) (Qdm (d := 145) I f9) (Qdl (enc := I) (sz := 1) Qdw f9) (ab (congrArg (fun z => (⟨[(147,.rs 56)],[(56,some (.arr z)),(21,none),(55,none)],[56]⟩ : Wr)) ((List.map_append).symm : (List.map K07 b1) ++ (List.map K07 [f8]) = List.map K07 (b1 ++ [f8]))) (Qdr (enc1 := K07) (enc2 := K07) (e1 := b1) (e2 := [f8]) (sz := 1) K0a K0a g0) tv))) ?_
   refine K87 hc 2 [(1,sL ctx1),(3,.ra 1 0),(5,.ra 2 0),(7,.ra 4 0),(8,.rs 56),(9,.rs 54),(22,.sl (List.map K0s t2.fKids)),(23,I (t2.fKids.length : Int)),(24,I (wr (b3 + 1)))] ?_
   refine Qcv ?_
   exact WpL.view (fun a w hv => SRx.renL [(20,52),(21,56),(22,54)] hv (by kernel_rfl) (by kernel_rfl) (by kernel_rfl)) (impl_typertyp_l0_ih _ _ h c hc)
  refine xt 0 ?_
  refine Qcp ?_
  refine Qcw ?_
  obtain rfl := os h
  exact iv []
theorem Kmw : ∀ p r,Kmr p = some r → Kmt p r := Kmv.1
theorem Kmx : ∀ p r,Kms p = some r → Kmu p r := Kmv.2
def Kmy (p : K00 × LL × K01) : Option (Option K04) :=
 match p with
 | (s0,ctx1,t2) =>
  ((
  (Kht s0) >>= fun a0 =>
  if a0 = true then
  (Kip (s0,ctx1)) >>= fun a1 =>
  if a1 = true then
  (Kj9 (s0,t2,(ctx1.length : Int))) >>= fun a2 =>
  some ((!a2))
  else
  some (true)
  else
  some (true)
  ) : Option (Bool)) >>= fun a3 =>
  if a3 = true then
  some none
  else
  (Kmr ((K06.mk s0),ctx1,t2)) >>= fun a4 =>
  some (some a4)
def Kmz (p : K00 × LL × K01) (r : Option K04) : Prop :=
 match p with
 | (s0,ctx1,t2) => Q71 Tryz.prog 47 [K25 s0,sL ctx1,K27 t2] (K0m r) []
theorem Kn0 : ∀ p r,Kmy p = some r → Kmz p r := by
 rintro ⟨s0,ctx1,t2⟩ r h
 unfold Kmy at h
 refine b0 Tryz.f47 B47 29 [(0,K25 s0),(1,sL ctx1),(2,K27 t2)] fun c hc => ?_
 refine rs hc none [some (.new 1),some (.new 2),oN] [(1,sL ctx1),(3,.ra 1 0),(5,.ra 2 0)] [(1,K24 s0),(2,K26 t2)] tv ?_
 refine sN ?_
 refine sN ?_
 obtain ⟨a0,a1,h⟩ := Qdd h
 refine Wp.into (x := .normal) (mkS [(1,sL ctx1),(3,.ra 1 0),(5,.ra 2 0),(23,.bool a0)] [(1,K24 s0),(2,K26 t2)]) ?_ ?_
 ·replace h := a1
  obtain ⟨a2,a3,h⟩ := Qdd h
  rcases is h with ⟨a4,h⟩ | ⟨a4,h⟩
  ·obtain ⟨a5,a6,h⟩ := Qdd h
   rcases is h with ⟨a7,h⟩ | ⟨a7,h⟩
   ·obtain ⟨a8,a9,h⟩ := Qdd h
    refine rgs hc none [oN,oc (.bool a2),oN,oN,oN,oN,oc (.bool a5),oN,oF,oN,oN,oN,oN,some (.eqv (.no) ⟨[(20,I (ctx1.length : Int))],[],[]⟩),oc (.bool a8),oN,oF] [(1,sL ctx1),(3,.ra 1 0),(5,.ra 2 0),(23,.bool (!a8))] (cq (Khv _ _ a3) K5w (ar 3 (nF a4) (cq (Kir _ _ a6) K6b (ar 2 (nF a4) (ar 4 (nF a7) (ab (Qdj (d := 20) K07 ctx1) (nF a7) (cq (Kjb _ _ a9) K6k (ar 2 (nF a7) tv)))))))) ?_
    obtain rfl := os h
    exact Qcz.mk
   refine rgs hc none [oN,oc (.bool a2),oN,oN,oN,oN,oc (.bool a5),oN,oF,oN,o_,o_,o_,o_,o_,o_,oT] [(1,sL ctx1),(3,.ra 1 0),(5,.ra 2 0),(23,.bool true)] (cq (Khv _ _ a3) K5w (ar 3 (nF a4) (cq (Kir _ _ a6) K6b (ar 2 (nF a4) (ar 6 (neF (nT a7)) (ai (nT a7) tv)))))) ?_
   obtain rfl := os h
   exact Qcz.mk
  refine rgs hc none [oN,oc (.bool a2),oN,oN,o_,o_,o_,o_,oT,oN,o_,o_,o_,o_,o_,o_,oT] [(1,sL ctx1),(3,.ra 1 0),(5,.ra 2 0),(23,.bool true)] (cq (Khv _ _ a3) K5w (ar 4 (neF (nT a4)) (ai (nT a4) (ar 6 nf (ai tt tv))))) ?_
  obtain rfl := os h
  exact Qcz.mk
 clear a1
 refine ic h (fun b1 h => ?_) fun b1 h => ?_
 ·refine rs0 hc 1 [(6,.nilp)] [] ?_
  refine rt ?_
  obtain rfl := os h
  exact rq [false]
 refine sk ?_
 obtain ⟨b2,b3,h⟩ := Qdd h
 refine rs hc none [oN,oN,oN,oN,oc (.ptr [sI b2.fty,sI b2.fneeds,.sl (List.map K0i b2.fkids),I b2.ffault,sI b2.fpath] 0),oN] [(6,.ptr [sI b2.fty,sI b2.fneeds,.sl (List.map K0i b2.fkids),I b2.ffault,sI b2.fpath] 0)] [] (cq (Kmw _ _ b3) K6q tv) ?_
 refine rt ?_
 obtain rfl := os h
 exact rq [false]
def Kn1 (c : Ctx) (t0 : K01) (a0 : List Int) : (List K01) → Exit → Q0a → Prop
 | a1 => Qcz c (.exit 0) (mkS [(2,.ra 2 0),(3,.ra 4 0)] [(2,.box [I 0,I 0,.nils,.nils]),(3,rI a0),(4,.box [I t0.fOp,I t0.fN,.rs 3,.rs 10]),(10,.arr (List.map K0v a1))])
mutual
def Kn2 (t0 : K01) : Option (K01) :=
 (Kkb t0.fType) >>= fun a0 =>
 (Kn3 (t0,a0,[],0)) >>= fun a1 =>
 some (K01.mk t0.fOp t0.fN a0 a1)
 partial_fixpoint
def Kn3 (p : K01 × (List Int) × (List K01) × Int) : Option ((List K01)) :=
 match p with
 | (t0,a0,a1,a2) =>
  if (decide (a2 < (t0.fKids.length : Int))) = true then
  (idx t0.fKids a2) >>= fun a3 =>
  (Kn2 a3) >>= fun a4 =>
  (Qdq (a1.length + [a4].length) 64) >>= fun _ =>
  Kn3 (t0,a0,(a1 ++ [a4]),(wr (a2 + 1)))
  else
  some (a1)
 partial_fixpoint
end
def Kn4 (t0 : K01) (r : K01) : Prop :=
 Q71 Tryz.prog 88 [K27 t0] (K2i r) []
def Kn5 (p : K01 × (List Int) × (List K01) × Int) (fl : (List K01)) : Prop :=
 match p with
 | (t0,a0,a1,a2) => ∀ c : Ctx,c.nt = 30 → WpL Tryz.prog c (cl (cl (cr (cl (cr (cr B88)))))) (Kn1 c t0 a0 fl) (mkS [(2,.ra 2 0),(3,.ra 4 0),(15,.sl (List.map K0s t0.fKids)),(16,I (t0.fKids.length : Int)),(17,I a2)] [(2,.box [I 0,I 0,.nils,.nils]),(3,rI a0),(4,.box [I t0.fOp,I t0.fN,.rs 3,.rs 10]),(10,.arr (List.map K0v a1))])
theorem Kn6 : (∀ p r,Kn2 p = some r → Kn4 p r) ∧ (∀ p r,Kn3 p = some r → Kn5 p r) := by
 refine Kn2.mutual_partial_correctness Kn4 Kn5 ?_ ?_
 ·rintro impl_copyTerm_l0_f impl_copyTerm_l0_ih t0 r h
  refine b0 Tryz.f88 B88 30 [(0,K27 t0)] fun c hc => ?_
  refine rs hc none [some (.new 1),some (.new 2)] [(1,.ra 1 0),(2,.ra 2 0)] [(1,K26 t0),(2,.box [I 0,I 0,.nils,.nils])] tv ?_
  obtain ⟨a0,a1,h⟩ := Qdd h
  refine rs hc (rx [[0],[1],[0],[0,2],[0],[0,4],[0,4,5],[7],[0],[9]]) [oN,oN,oN,oN,oN,oN,some (.call (oI a0) [] 3),oN,some (.new 4),oN] [(1,.ra 1 0),(2,.ra 2 0),(3,.ra 4 0)] [(1,K26 t0),(2,.box [I 0,I 0,.nils,.nils]),(3,rI a0),(4,.box [I t0.fOp,I t0.fN,.rs 3,.nils])] (cq (Kkd _ _ a1) K6t tv) ?_
  refine sN ?_
  refine rs hc none [oN,oN,some (.eqv (.no) ⟨[(16,I (t0.fKids.length : Int))],[],[]⟩),oN] [(2,.ra 2 0),(3,.ra 4 0),(15,.sl (List.map K0s t0.fKids)),(16,I (t0.fKids.length : Int)),(17,I 0)] [(2,.box [I 0,I 0,.nils,.nils]),(3,rI a0),(4,.box [I t0.fOp,I t0.fN,.rs 3,.nils])] (ai (Qdj (d := 16) K0s t0.fKids) tv) ?_
  refine bk 0 ?_
  obtain ⟨a2,a3,h⟩ := Qdd h
  have hL := impl_copyTerm_l0_ih _ _ a3 c hc
  refine Wp.loopN (by kernel_rfl) (WpL.view (fun a w hv => SRx.renL [(10,21)] (SRx.nilBL 4 3 21 [I t0.fOp,I t0.fN,.rs 3,.nils] hv (by kernel_rfl) (by kernel_rfl) (by kernel_rfl)) (by kernel_rfl) (by kernel_rfl) (by kernel_rfl)) (?_ : WpL _ c _ _ (mkS [(2,.ra 2 0),(3,.ra 4 0),(15,.sl (List.map K0s t0.fKids)),(16,I (t0.fKids.length : Int)),(17,I 0)] [(2,.box [I 0,I 0,.nils,.nils]),(3,rI a0),(4,.box [I t0.fOp,I t0.fN,.rs 3,.rs 10]),(10,.arr (List.map K0v []))])))
  refine WpL.into (e := (.exit 0)) (mkS [(2,.ra 2 0),(3,.ra 4 0)] [(2,.box [I 0,I 0,.nils,.nils]),(3,rI a0),(4,.box [I t0.fOp,I t0.fN,.rs 3,.rs 10]),(10,.arr (List.map K0v a2))]) hL ?_
  refine Qcr ?_
  refine rs0 hc 2 [(2,.ra 2 0)] [(2,.box [I t0.fOp,I t0.fN,.rs 3,.rs 10]),(3,rI a0),(10,.arr (List.map K0v a2))] ?_
  refine rt ?_
  obtain rfl := os h
  exact rq [true]
 ·rintro impl_copyTerm_f impl_copyTerm_l0_f impl_copyTerm_ih impl_copyTerm_l0_ih ⟨t0,a0,a4,a5⟩ r h
  intro c hc
  refine WpL.step ?_
  refine K88 hc 1 [(2,.ra 2 0),(3,.ra 4 0),(15,.sl (List.map K0s t0.fKids)),(16,I (t0.fKids.length : Int)),(17,I a5),(18,.bool (decide (a5 < (t0.fKids.length : Int))))] ?_
  refine sN ?_
  refine ic h (fun a6 h => ?_) fun a6 h => ?_
  ·refine sk ?_
   refine sN ?_
   refine bk 1 ?_
   obtain ⟨a7,a8,h⟩ := Qdd h
   refine rs hc none [some (.el (K27 a7)),oN,some (.new 16),oN] [(2,.ra 2 0),(3,.ra 4 0),(5,.ra 16 0),(15,.sl (List.map K0s t0.fKids)),(16,I (t0.fKids.length : Int)),(17,I a5)] [(2,.box [I 0,I 0,.nils,.nils]),(3,rI a0),(4,.box [I t0.fOp,I t0.fN,.rs 3,.rs 10]),(10,.arr (List.map K0v a4)),(16,K26 a7)] (ai (Qdh a8 (K0z a7)) tv) ?_
   obtain ⟨a9,b1,_,b2,h⟩ := bq2 h
   refine rg hc (rx [[0],[1],[0],[0,2],[0,2,3],[5],[6],[7]]) [oN,oN,oN,some (.call (K2i a9) [] 17),some (.eqv (.mk 19 true) ⟨[(25,.rs 19)],[(19,some (.arr (List.map K0v [a9]))),(17,none),(18,none)],[19]⟩),some (.eqv (.mk 20 true) ⟨[(26,.rs 20)],[(20,some (.arr (List.map K0v (a4 ++ [a9])))),(10,none),(19,none)],[20]⟩),oN,oN] [(2,.ra 2 0),(3,.ra 4 0),(15,.sl (List.map K0s t0.fKids)),(16,I (t0.fKids.length : Int)),(17,I a5)] [(2,.box [I 0,I 0,.nils,.nils]),(3,rI a0),(4,.box [I t0.fOp,I t0.fN,.rs 3,.rs 20]),(20,.arr (List.map K0v (a4 ++ [a9])))] (cq (impl_copyTerm_ih _ _ b1) K7l (ac (congrArg (fun z => (⟨[(25,.rs 19)],[(19,some (.arr z)),(17,none),(18,none)],[19]⟩ : Wr)) ((Qek (K11 a9) Qej) : [AV.agg [I a9.fOp,I a9.fN,oI a9.fType,AV.osl (List.map K0v a9.fKids)]] = List.map K0v [a9])) (congrArg (fun z => (⟨[(26,.rs 20)],[(20,some (.arr z)),(10,none),(19,none)],[20]⟩ : Wr)) ((List.map_append).symm : (List.map K0v a4) ++ (List.map K0v [a9]) = List.map K0v (a4 ++ [a9]))) (Qdr (enc1 := K0v) (enc2 := K0v) (e1 := a4) (e2 := [a9]) (sz := 4) K1f K1f b2) tv)) ?_
   refine K87 hc 2 [(2,.ra 2 0),(3,.ra 4 0),(15,.sl (List.map K0s t0.fKids)),(16,I (t0.fKids.length : Int)),(17,I (wr (a5 + 1)))] ?_
   refine Qcv ?_
   exact WpL.view (fun a w hv => SRx.renL [(10,20)] hv (by kernel_rfl) (by kernel_rfl) (by kernel_rfl)) (impl_copyTerm_l0_ih _ _ h c hc)
  refine xt 0 ?_
  refine Qcp ?_
  refine Qcw ?_
  obtain rfl := os h
  exact iv []
theorem Kn7 : ∀ p r,Kn2 p = some r → Kn4 p r := Kn6.1
theorem Kn8 : ∀ p r,Kn3 p = some r → Kn5 p r := Kn6.2
def Kn9 (c : Ctx) (ctx1 : LL) (t2 : K01) (x3 : K04) : (List K02) × (List Int) → Exit → Q0a → Prop
 | (a0,a1) => Qcz c (.exit 0) (mkS [(0,.rs 1),(1,sL ctx1),(3,.ptr [sI x3.fty,sI x3.fneeds,.sl (List.map K0i x3.fkids),I x3.ffault,sI x3.fpath] 0),(6,.ra 2 0),(10,.rs 9)] [(1,.arr (List.map K13 a0)),(2,K26 t2),(9,rI a1)])
def Kna (c : Ctx) (t2 : K01) (x3 : K04) (a0 : List K02) (a1 : List Int) : LL → Exit → Q0a → Prop
 | a2 => Qcz c (.exit 2) (mkS [(0,.rs 1),(3,.ptr [sI x3.fty,sI x3.fneeds,.sl (List.map K0i x3.fkids),I x3.ffault,sI x3.fpath] 0),(6,.ra 2 0),(10,.rs 9),(16,.rs 26)] [(1,.arr (List.map K13 a0)),(2,K26 t2),(9,rI a1),(26,.arr (List.map K0c a2))])
def Knb (p : LL × K01 × K04 × (List K02) × (List Int) × LL × Int) : Option (LL) :=
 match p with
 | (ctx1,t2,x3,a0,a1,a2,a3) =>
  if (decide (a3 < (ctx1.length : Int))) = true then
  (idx ctx1 a3) >>= fun a4 =>
  (Kkb a4) >>= fun a5 =>
  (Qdq (a2.length + [a5].length) 24) >>= fun _ =>
  Knb (ctx1,t2,x3,a0,a1,(a2 ++ [a5]),(wr (a3 + 1)))
  else
  some (a2)
 partial_fixpoint
def Knc (p : LL × K01 × K04 × (List K02) × (List Int) × LL × Int) (fl : LL) : Prop :=
 match p with
 | (ctx1,t2,x3,a0,a1,a2,a3) => ∀ c : Ctx,c.nt = 98 → WpL Tryz.prog c (cl (cl (cr (cl (cr (cr (cr (cr B48)))))))) (Kna c t2 x3 a0 a1 fl) (mkS [(0,.rs 1),(3,.ptr [sI x3.fty,sI x3.fneeds,.sl (List.map K0i x3.fkids),I x3.ffault,sI x3.fpath] 0),(6,.ra 2 0),(10,.rs 9),(16,.rs 26),(64,sL ctx1),(65,I (ctx1.length : Int)),(66,I a3)] [(1,.arr (List.map K13 a0)),(2,K26 t2),(9,rI a1),(26,.arr (List.map K0c a2))])
theorem Knd : ∀ p r,Knb p = some r → Knc p r := by
 refine Knb.partial_correctness Knc ?_
 rintro impl_derived_l1_f impl_derived_l1_ih ⟨ctx1,t2,x3,a0,a1,a2,a3⟩ r h
 intro c hc
 refine WpL.step ?_
 refine K88 hc 1 [(0,.rs 1),(3,.ptr [sI x3.fty,sI x3.fneeds,.sl (List.map K0i x3.fkids),I x3.ffault,sI x3.fpath] 0),(6,.ra 2 0),(10,.rs 9),(16,.rs 26),(64,sL ctx1),(65,I (ctx1.length : Int)),(66,I a3),(67,.bool (decide (a3 < (ctx1.length : Int))))] ?_
 refine sN ?_
 refine ic h (fun a4 h => ?_) fun a4 h => ?_
 ·refine sk ?_
  refine sN ?_
  refine bk 3 ?_
  obtain ⟨a5,a6,h⟩ := Qdd h
  refine rss hc none [some (.el (sI a5)),oN,oN] [(0,.rs 1),(3,.ptr [sI x3.fty,sI x3.fneeds,.sl (List.map K0i x3.fkids),I x3.ffault,sI x3.fpath] 0),(6,.ra 2 0),(10,.rs 9),(16,.rs 26),(18,sI a5),(64,sL ctx1),(65,I (ctx1.length : Int)),(66,I a3)] (ai (xL a6) tv) ?_
  obtain ⟨a7,a8,_,a9,h⟩ := bq2 h
  refine rg hc none [oN,oN,some (.call (oI a7) [] 30),some (.mk 31 true),some (.eqv (.mk 32 true) ⟨[(74,.rs 32)],[(32,some (.arr (List.map K0c (a2 ++ [a7])))),(26,none),(31,none)],[32]⟩),oN] [(0,.rs 1),(3,.ptr [sI x3.fty,sI x3.fneeds,.sl (List.map K0i x3.fkids),I x3.ffault,sI x3.fpath] 0),(6,.ra 2 0),(10,.rs 9),(16,.rs 32),(64,sL ctx1),(65,I (ctx1.length : Int)),(66,I a3)] [(1,.arr (List.map K13 a0)),(2,K26 t2),(9,rI a1),(32,.arr (List.map K0c (a2 ++ [a7])))] (cq (Kkd _ _ a8) K6t (ab (congrArg (fun z => (⟨[(74,.rs 32)],[(32,some (.arr z)),(26,none),(31,none)],[32]⟩ : Wr)) ((List.map_append).symm : (List.map K0c a2) ++ (List.map K0c [a7]) = List.map K0c (a2 ++ [a7]))) (Qdr (enc1 := K0c) (enc2 := K0c) (e1 := a2) (e2 := [a7]) (sz := 1) K0f K0f a9) tv)) ?_
  refine K87 hc 2 [(0,.rs 1),(3,.ptr [sI x3.fty,sI x3.fneeds,.sl (List.map K0i x3.fkids),I x3.ffault,sI x3.fpath] 0),(6,.ra 2 0),(10,.rs 9),(16,.rs 32),(64,sL ctx1),(65,I (ctx1.length : Int)),(66,I (wr (a3 + 1)))] ?_
  refine Qcv ?_
  exact WpL.view (fun a w hv => SRx.renL [(26,32)] hv (by kernel_rfl) (by kernel_rfl) (by kernel_rfl)) (impl_derived_l1_ih _ _ h c hc)
 refine xt 2 ?_
 refine Qcp ?_
 refine Qcw ?_
 obtain rfl := os h
 exact iv []
def Kne : Option (List (List Nat)) := rx [[0],[0],[2],[3],[0],[0],[0,4,5],[0,4,5,6],[8]]
def Knf : Option (List (List Nat)) := rx [[0],[0],[2],[3],[0],[0],[0,4,5],[0,4,5,6],[8],[9]]
mutual
def Kng (p : (List K02) × LL × K01 × K04) : Option ((List K02) × Int) :=
 match p with
 | (l0,ctx1,t2,x3) =>
  (Knh (ctx1,t2,x3,l0,[],0)) >>= fun (a0,a1) =>
  (Knb (ctx1,t2,x3,a0,a1,[],0)) >>= fun a2 =>
  (Kkb x3.fneeds) >>= fun a3 =>
  (Kn2 t2) >>= fun a4 =>
  (Kkb x3.fty) >>= fun a5 =>
  (Qdq (a0.length + [(K02.mk a2 a3 a4 a5 a1)].length) 160) >>= fun _ =>
  some ((a0 ++ [(K02.mk a2 a3 a4 a5 a1)]),(wr (((a0 ++ [(K02.mk a2 a3 a4 a5 a1)]).length : Int) - 1)))
 partial_fixpoint
def Knh (p : LL × K01 × K04 × (List K02) × (List Int) × Int) : Option ((List K02) × (List Int)) :=
 match p with
 | (ctx1,t2,x3,a0,a1,a2) =>
  if (decide (a2 < (t2.fKids.length : Int))) = true then
  (idx t2.fKids a2) >>= fun a3 =>
  ((
  if (decide (a2 > 0)) = true then
  (idx x3.fkids 0) >>= fun a4 =>
  some (a4.fty)
  else
  some ([])
  ) : Option ((List Int))) >>= fun a5 =>
  (Kjj (t2,a2,a5)) >>= fun a6 =>
  (Kjx [a6,ctx1]) >>= fun a7 =>
  (idx x3.fkids a2) >>= fun a8 =>
  (Kng (a0,a7,a3,a8)) >>= fun (a9,b1) =>
  (Qdq (a1.length + [b1].length) 8) >>= fun _ =>
  Knh (ctx1,t2,x3,a9,(a1 ++ [b1]),(wr (a2 + 1)))
  else
  some ((a0,a1))
 partial_fixpoint
end
def Kni (p : (List K02) × LL × K01 × K04) (r : (List K02) × Int) : Prop :=
 match p with
 | (l0,ctx1,t2,x3) => Q71 Tryz.prog 48 [.osl (List.map K13 l0),sL ctx1,K27 t2,.ptr [sI x3.fty,sI x3.fneeds,.sl (List.map K0i x3.fkids),I x3.ffault,sI x3.fpath] 0] (.tup [.osl (List.map K13 r.1),I r.2]) []
def Knj (p : LL × K01 × K04 × (List K02) × (List Int) × Int) (fl : (List K02) × (List Int)) : Prop :=
 match p with
 | (ctx1,t2,x3,a0,a1,a2) => ∀ c : Ctx,c.nt = 98 → WpL Tryz.prog c (cl (cl (cr (cl (cr (cr B48)))))) (Kn9 c ctx1 t2 x3 fl) (mkS [(0,.rs 1),(1,sL ctx1),(3,.ptr [sI x3.fty,sI x3.fneeds,.sl (List.map K0i x3.fkids),I x3.ffault,sI x3.fpath] 0),(6,.ra 2 0),(10,.rs 9),(20,.sl (List.map K0s t2.fKids)),(21,I (t2.fKids.length : Int)),(22,I a2)] [(1,.arr (List.map K13 a0)),(2,K26 t2),(9,rI a1)])
theorem Knk : (∀ p r,Kng p = some r → Kni p r) ∧ (∀ p r,Knh p = some r → Knj p r) := by
 refine Kng.mutual_partial_correctness Kni Knj ?_ ?_
 ·rintro impl_derived_l0_f impl_derived_l0_ih ⟨l0,ctx1,t2,x3⟩ r h
  refine Q71.body K3e (fn := Tryz.f48) (code := B48) (by kernel_rfl) (by kernel_rfl) (by kernel_rfl) (nt := 98) (by kernel_rfl) (by kernel_rfl) (T := [(0,.rs 1000),(1,sL ctx1),(2,K27 t2),(3,.ptr [sI x3.fty,sI x3.fneeds,.sl (List.map K0i x3.fkids),I x3.ffault,sI x3.fpath] 0)]) (O := [(1000,.arr (List.map K13 l0))]) (by kernel_rfl) (by kernel_rfl) (fun c hc => ?_)
  refine Wp.view (fun a w hv => SRx.renL [(1,1000)] hv (by kernel_rfl) (by kernel_rfl) (by kernel_rfl)) (?_ : Wp Tryz.prog c _ _ (mkS [(0,.rs 1),(1,sL ctx1),(2,K27 t2),(3,.ptr [sI x3.fty,sI x3.fneeds,.sl (List.map K0i x3.fkids),I x3.ffault,sI x3.fpath] 0)] [(1,.arr (List.map K13 l0))]))
  refine rs hc none [some (.new 2),oN,oN] [(0,.rs 1),(1,sL ctx1),(3,.ptr [sI x3.fty,sI x3.fneeds,.sl (List.map K0i x3.fkids),I x3.ffault,sI x3.fpath] 0),(6,.ra 2 0)] [(1,.arr (List.map K13 l0)),(2,K26 t2)] tv ?_
  refine K88 hc 1 [(0,.rs 1),(1,sL ctx1),(3,.ptr [sI x3.fty,sI x3.fneeds,.sl (List.map K0i x3.fkids),I x3.ffault,sI x3.fpath] 0),(6,.ra 2 0),(10,.nils)] ?_
  refine sN ?_
  refine rss hc none [oN,oN,some (.eqv (.no) ⟨[(21,I (t2.fKids.length : Int))],[],[]⟩),oN] [(0,.rs 1),(1,sL ctx1),(3,.ptr [sI x3.fty,sI x3.fneeds,.sl (List.map K0i x3.fkids),I x3.ffault,sI x3.fpath] 0),(6,.ra 2 0),(10,.nils),(20,.sl (List.map K0s t2.fKids)),(21,I (t2.fKids.length : Int)),(22,I 0)] (ai (Qdj (d := 21) K0s t2.fKids) tv) ?_
  refine bk 0 ?_
  obtain ⟨⟨a0,a1⟩,a2,h⟩ := Qdd h
  have hL := impl_derived_l0_ih _ _ a2 c hc
  refine Wp.loopN (by kernel_rfl) (WpL.view (fun a w hv => SRx.renL [(9,22)] (SRx.nilTL 10 22 hv (by kernel_rfl) (by kernel_rfl)) (by kernel_rfl) (by kernel_rfl) (by kernel_rfl)) (?_ : WpL _ c _ _ (mkS [(0,.rs 1),(1,sL ctx1),(3,.ptr [sI x3.fty,sI x3.fneeds,.sl (List.map K0i x3.fkids),I x3.ffault,sI x3.fpath] 0),(6,.ra 2 0),(10,.rs 9),(20,.sl (List.map K0s t2.fKids)),(21,I (t2.fKids.length : Int)),(22,I 0)] [(1,.arr (List.map K13 l0)),(2,K26 t2),(9,.arr (List.map I []))])))
  refine WpL.into (e := (.exit 0)) (mkS [(0,.rs 1),(1,sL ctx1),(3,.ptr [sI x3.fty,sI x3.fneeds,.sl (List.map K0i x3.fkids),I x3.ffault,sI x3.fpath] 0),(6,.ra 2 0),(10,.rs 9)] [(1,.arr (List.map K13 a0)),(2,K26 t2),(9,rI a1)]) hL ?_
  refine Qcr ?_
  refine K88 hc 1 [(0,.rs 1),(1,sL ctx1),(3,.ptr [sI x3.fty,sI x3.fneeds,.sl (List.map K0i x3.fkids),I x3.ffault,sI x3.fpath] 0),(6,.ra 2 0),(10,.rs 9),(16,.nils)] ?_
  refine sN ?_
  refine rss hc none [oN,some (.eqv (.no) ⟨[(65,I (ctx1.length : Int))],[],[]⟩),oN] [(0,.rs 1),(3,.ptr [sI x3.fty,sI x3.fneeds,.sl (List.map K0i x3.fkids),I x3.ffault,sI x3.fpath] 0),(6,.ra 2 0),(10,.rs 9),(16,.nils),(64,sL ctx1),(65,I (ctx1.length : Int)),(66,I 0)] (ai (Qdj (d := 65) K07 ctx1) tv) ?_
  refine bk 2 ?_
  obtain ⟨a3,a4,h⟩ := Qdd h
  have hL := Knd _ _ a4 c hc
  refine Wp.loopN (by kernel_rfl) (WpL.view (fun a w hv => SRx.renL [(26,33)] (SRx.nilTL 16 33 hv (by kernel_rfl) (by kernel_rfl)) (by kernel_rfl) (by kernel_rfl) (by kernel_rfl)) (?_ : WpL _ c _ _ (mkS [(0,.rs 1),(3,.ptr [sI x3.fty,sI x3.fneeds,.sl (List.map K0i x3.fkids),I x3.ffault,sI x3.fpath] 0),(6,.ra 2 0),(10,.rs 9),(16,.rs 26),(64,sL ctx1),(65,I (ctx1.length : Int)),(66,I 0)] [(1,.arr (List.map K13 a0)),(2,K26 t2),(9,rI a1),(26,.arr (List.map K0c []))])))
  refine WpL.into (e := (.exit 2)) (mkS [(0,.rs 1),(3,.ptr [sI x3.fty,sI x3.fneeds,.sl (List.map K0i x3.fkids),I x3.ffault,sI x3.fpath] 0),(6,.ra 2 0),(10,.rs 9),(16,.rs 26)] [(1,.arr (List.map K13 a0)),(2,K26 t2),(9,rI a1),(26,.arr (List.map K0c a3))]) hL ?_
  refine Qcr ?_
  obtain ⟨a5,a6,a7,a8,a9,b1,_,b2,h⟩ := bq4 h
  refine rs hc (rx [[0],[0],[0],[0,2],[0,2,3],[0,2,3,4],[0,2,3,4,5],[0],[0,2,3,4,5,6,7],[0],[0,9],[0,9,10],[0,9,10,11],[0,2,3,4,5,6,7,8,9,10,11,12],[0],[0,1,2,3,4,5,6,7,8,9,10,11,12,13,14],[0,1,2,3,4,5,6,7,8,9,10,11,12,13,14,15],[17],[18]]) [oN,oN,oN,oN,oN,oN,some (.call (oI a5) [] 34),oN,some (.call (K2i a7) [] 35),oN,oN,oN,oN,some (.call (oI a9) [] 37),oN,oN,some (.mk 38 true),some (.eqv (.mk 39 true) ⟨[(93,.rs 39)],[(39,some (.arr (List.map K13 (a0 ++ [(K02.mk a3 a5 a7 a9 a1)])))),(1,none),(38,none)],[39]⟩),oN] [(0,.rs 39)] [(39,.arr (List.map K13 (a0 ++ [(K02.mk a3 a5 a7 a9 a1)])))] (cq (Kkd _ _ a6) K6t (cq (Kn7 _ _ a8) K7l (cq (Kkd _ _ b1) K6t (ab (congrArg (fun z => (⟨[(93,.rs 39)],[(39,some (.arr z)),(1,none),(38,none)],[39]⟩ : Wr)) ((List.map_append).symm : (List.map K13 a0) ++ (List.map K13 [(K02.mk a3 a5 a7 a9 a1)]) = List.map K13 (a0 ++ [(K02.mk a3 a5 a7 a9 a1)]))) (Qdr (enc1 := K13) (enc2 := K13) (e1 := a0) (e2 := [(K02.mk a3 a5 a7 a9 a1)]) (sz := 8) K21 K21 b2) tv)))) ?_
  refine rss hc none [oN,oN,some (.eqv (.no) ⟨[(96,I ((a0 ++ [(K02.mk a3 a5 a7 a9 a1)]).length : Int))],[],[]⟩),oN,oN,oN] [(8,.rs 39),(9,I (wr (((a0 ++ [(K02.mk a3 a5 a7 a9 a1)]).length : Int) - 1)))] (ai (Qdj (d := 96) K13 (a0 ++ [(K02.mk a3 a5 a7 a9 a1)])) tv) ?_
  refine rt ?_
  obtain rfl := os h
  exact rq [true,true]
 ·rintro impl_derived_f impl_derived_l0_f impl_derived_ih impl_derived_l0_ih ⟨ctx1,t2,x3,b3,b4,b5⟩ r h
  intro c hc
  refine WpL.step ?_
  refine K88 hc 1 [(0,.rs 1),(1,sL ctx1),(3,.ptr [sI x3.fty,sI x3.fneeds,.sl (List.map K0i x3.fkids),I x3.ffault,sI x3.fpath] 0),(6,.ra 2 0),(10,.rs 9),(20,.sl (List.map K0s t2.fKids)),(21,I (t2.fKids.length : Int)),(22,I b5),(23,.bool (decide (b5 < (t2.fKids.length : Int))))] ?_
  refine sN ?_
  refine ic h (fun b6 h => ?_) fun b6 h => ?_
  ·refine sk ?_
   refine sN ?_
   refine bk 1 ?_
   obtain ⟨b7,b8,h⟩ := Qdd h
   refine rs hc none [oN,some (.el (K27 b7)),oN,some (.new 16),oN,oN] [(0,.rs 1),(1,sL ctx1),(3,.ptr [sI x3.fty,sI x3.fneeds,.sl (List.map K0i x3.fkids),I x3.ffault,sI x3.fpath] 0),(6,.ra 2 0),(10,.rs 9),(11,I b5),(12,.ra 16 0),(20,.sl (List.map K0s t2.fKids)),(21,I (t2.fKids.length : Int)),(22,I b5)] [(1,.arr (List.map K13 b3)),(2,K26 t2),(9,rI b4),(16,K26 b7)] (ai (Qdh b8 (K0z b7)) tv) ?_
   refine K88 hc 1 [(0,.rs 1),(1,sL ctx1),(3,.ptr [sI x3.fty,sI x3.fneeds,.sl (List.map K0i x3.fkids),I x3.ffault,sI x3.fpath] 0),(6,.ra 2 0),(10,.rs 9),(11,I b5),(12,.ra 16 0),(13,.nils),(20,.sl (List.map K0s t2.fKids)),(21,I (t2.fKids.length : Int)),(22,I b5)] ?_
   refine sN ?_
   refine K88 hc 2 [(0,.rs 1),(1,sL ctx1),(3,.ptr [sI x3.fty,sI x3.fneeds,.sl (List.map K0i x3.fkids),I x3.ffault,sI x3.fpath] 0),(6,.ra 2 0),(10,.rs 9),(11,I b5),(12,.ra 16 0),(13,.nils),(20,.sl (List.map K0s t2.fKids)),(21,I (t2.fKids.length : Int)),(22,I b5),(28,.bool (decide (b5 > 0)))] ?_
   obtain ⟨b9,c0,h⟩ := Qdd h
   refine Wp.into (x := .normal) (mkS [(0,.rs 1),(1,sL ctx1),(3,.ptr [sI x3.fty,sI x3.fneeds,.sl (List.map K0i x3.fkids),I x3.ffault,sI x3.fpath] 0),(6,.ra 2 0),(10,.rs 9),(11,I b5),(12,.ra 16 0),(13,sI b9),(20,.sl (List.map K0s t2.fKids)),(21,I (t2.fKids.length : Int)),(22,I b5)] [(1,.arr (List.map K13 b3)),(2,K26 t2),(9,rI b4),(16,K26 b7)]) ?_ ?_
   ·replace h := c0
    refine ic h (fun c1 h => ?_) fun c1 h => ?_
    ·obtain ⟨c2,c3,h⟩ := Qdd h
     refine rgs hc none [oN,oN,oN,oN,some (.el (.ptr [sI c2.fty,sI c2.fneeds,.sl (List.map K0i c2.fkids),I c2.ffault,sI c2.fpath] 0)),oN,oN,oN,oN,oN] [(0,.rs 1),(1,sL ctx1),(3,.ptr [sI x3.fty,sI x3.fneeds,.sl (List.map K0i x3.fkids),I x3.ffault,sI x3.fpath] 0),(6,.ra 2 0),(10,.rs 9),(11,I b5),(12,.ra 16 0),(13,sI c2.fty),(20,.sl (List.map K0s t2.fKids)),(21,I (t2.fKids.length : Int)),(22,I b5)] (ai (Qdh (enc := K0i) (x := .ptr [sI c2.fty,sI c2.fneeds,.sl (List.map K0i c2.fkids),I c2.ffault,sI c2.fpath] 0) c3 (K0l c2)) tv) ?_
     obtain rfl := os h
     exact Qcz.mk
    refine sk ?_
    obtain rfl := os h
    exact Qcz.view (fun a w hv => SRx.renL [] (SRx.nilSL 13 hv (by kernel_rfl)) (by kernel_rfl) (by kernel_rfl) (by kernel_rfl))
   clear c0
   obtain ⟨c4,c5,c6,c7,h⟩ := bq2 h
   refine rss hc none [oN,oN,oN,some (.call (.osl (List.map K07 c4)) [] 17),oN,some (.mk 18 true),some (.call (sL c6) [.tup []] 1),oN] [(0,.rs 1),(1,sL ctx1),(3,.ptr [sI x3.fty,sI x3.fneeds,.sl (List.map K0i x3.fkids),I x3.ffault,sI x3.fpath] 0),(6,.ra 2 0),(10,.rs 9),(11,I b5),(12,.ra 16 0),(14,sL c6),(20,.sl (List.map K0s t2.fKids)),(21,I (t2.fKids.length : Int)),(22,I b5)] (cq (Kjl _ _ c5) K6m (ab (Q71.args (A1 := [.sl (Q02 [AV.osl (List.map K07 c4),sL ctx1])]) (A2 := [.sl (List.map K1u [c4,ctx1])]) (by simp only [List.map_cons,List.map_nil,K1v,K0b,share,Qf1,Q02]) (Kjz _ _ c7)) K6p tv)) ?_
   refine K88 hc 1 [(0,.rs 1),(1,sL ctx1),(3,.ptr [sI x3.fty,sI x3.fneeds,.sl (List.map K0i x3.fkids),I x3.ffault,sI x3.fpath] 0),(6,.ra 2 0),(10,.rs 9),(11,I b5),(12,.ra 16 0),(14,sL c6),(20,.sl (List.map K0s t2.fKids)),(21,I (t2.fKids.length : Int)),(22,I b5)] ?_
   obtain ⟨c8,c9,⟨d0,d1⟩,d2,h⟩ := bq2 h
   refine rs hc (rx [[0],[0],[0],[0],[0,3],[0,3,4],[0,3,4,5],[0],[0,3,4,5,6,7],[0,3,4,5,6,7,8],[10],[11],[12],[12],[13],[15]]) [oN,oN,oN,oN,oN,oN,oN,oN,some (.el (.ptr [sI c8.fty,sI c8.fneeds,.sl (List.map K0i c8.fkids),I c8.ffault,sI c8.fpath] 0)),oN,some (.call (.tup [.osl (List.map K13 d0),I d1]) [.tup [],.undef,.undef,.undef] 19),oN,oN,oN,oN,oN] [(0,.rs 19),(1,sL ctx1),(3,.ptr [sI x3.fty,sI x3.fneeds,.sl (List.map K0i x3.fkids),I x3.ffault,sI x3.fpath] 0),(6,.ra 2 0),(10,.rs 9),(15,I d1),(20,.sl (List.map K0s t2.fKids)),(21,I (t2.fKids.length : Int)),(22,I b5)] [(2,K26 t2),(9,rI b4),(19,.arr (List.map K13 d0))] (ac (Qdh (enc := K0i) (x := .ptr [sI c8.fty,sI c8.fneeds,.sl (List.map K0i c8.fkids),I c8.ffault,sI c8.fpath] 0) c9 (K0l c8)) (Q71.undefs 4 (impl_derived_ih _ _ d2)) K7k tv) ?_
   obtain ⟨_,d3,h⟩ := Qdd h
   refine rg hc none [oN,oN,some (.mk 20 true),some (.eqv (.mk 21 true) ⟨[(62,.rs 21)],[(21,some (rI (b4 ++ [d1]))),(9,none),(20,none)],[21]⟩),oN] [(0,.rs 19),(1,sL ctx1),(3,.ptr [sI x3.fty,sI x3.fneeds,.sl (List.map K0i x3.fkids),I x3.ffault,sI x3.fpath] 0),(6,.ra 2 0),(10,.rs 21),(20,.sl (List.map K0s t2.fKids)),(21,I (t2.fKids.length : Int)),(22,I b5)] [(2,K26 t2),(19,.arr (List.map K13 d0)),(21,rI (b4 ++ [d1]))] (ab (congrArg (fun z => (⟨[(62,.rs 21)],[(21,some (.arr z)),(9,none),(20,none)],[21]⟩ : Wr)) ((List.map_append).symm : (List.map I b4) ++ (List.map I [d1]) = List.map I (b4 ++ [d1]))) (Qdr (enc1 := I) (enc2 := I) (e1 := b4) (e2 := [d1]) (sz := 1) Qe0 Qe0 d3) tv) ?_
   refine K87 hc 2 [(0,.rs 19),(1,sL ctx1),(3,.ptr [sI x3.fty,sI x3.fneeds,.sl (List.map K0i x3.fkids),I x3.ffault,sI x3.fpath] 0),(6,.ra 2 0),(10,.rs 21),(20,.sl (List.map K0s t2.fKids)),(21,I (t2.fKids.length : Int)),(22,I (wr (b5 + 1)))] ?_
   refine Qcv ?_
   exact WpL.view (fun a w hv => SRx.renL [(1,19),(9,21)] hv (by kernel_rfl) (by kernel_rfl) (by kernel_rfl)) (impl_derived_l0_ih _ _ h c hc)
  refine xt 0 ?_
  refine Qcp ?_
  refine Qcw ?_
  obtain ⟨rfl,rfl⟩ := Prod.mk.inj (Option.some.inj h)
  exact iv []
theorem Knl : ∀ p r,Kng p = some r → Kni p r := Knk.1
theorem Knm : ∀ p r,Knh p = some r → Knj p r := Knk.2
def Knn (p : K00 × LL × K01) : Option ((List K02) × Bool) :=
 match p with
 | (s0,ctx1,t2) =>
  (Kmy (s0,ctx1,t2)) >>= fun a0 =>
  match a0 with
  | none =>
   some ([],false)
  | some a1 =>
   if (a1.ffault != 0) = true then
   some ([],false)
   else
   (Kng ([],ctx1,t2,a1)) >>= fun (a2,a3) =>
   some (a2,true)
def Kno (p : K00 × LL × K01) (r : (List K02) × Bool) : Prop :=
 match p with
 | (s0,ctx1,t2) => Q71 Tryz.prog 19 [K25 s0,sL ctx1,K27 t2] (.tup [.osl (List.map K13 r.1),.bool r.2]) []
theorem Knp : ∀ p r,Knn p = some r → Kno p r := by
 rintro ⟨s0,ctx1,t2⟩ r h
 unfold Knn at h
 refine b0 Tryz.f19 B19 32 [(0,K25 s0),(1,sL ctx1),(2,K27 t2)] fun c hc => ?_
 refine rs hc none [some (.new 1),some (.new 2),oN,oN] [(1,sL ctx1),(3,.ra 1 0),(5,.ra 2 0)] [(1,K24 s0),(2,K26 t2)] tv ?_
 refine sN ?_
 obtain ⟨a0,a1,h⟩ := Qdd h
 rcases a0 with _ | a2
 ·refine rg hc none [oN,oN,oN,oc (.nilp),oN] [(1,sL ctx1),(5,.ra 2 0),(8,.nilp)] [(2,K26 t2)] (cq (Kn0 _ _ a1) K7j tv) ?_
  refine sN ?_
  refine rss hc none [oN,oN,oN,o_,o_,o_,o_,o_,oT] [(1,sL ctx1),(5,.ra 2 0),(8,.nilp),(23,.bool true)] (ar 5 nf (ai tt tv)) ?_
  refine cT true (rfl : true = true) ?_
  refine rs0 hc 2 [(6,.nils),(7,.bool false)] [] ?_
  refine rt ?_
  obtain rfl := os h
  exact rq [true,true]
 refine rg hc none [oN,oN,oN,oc (.ptr [sI a2.fty,sI a2.fneeds,.sl (List.map K0i a2.fkids),I a2.ffault,sI a2.fpath] 0),oN] [(1,sL ctx1),(5,.ra 2 0),(8,.ptr [sI a2.fty,sI a2.fneeds,.sl (List.map K0i a2.fkids),I a2.ffault,sI a2.fpath] 0)] [(2,K26 t2)] (cq (Kn0 _ _ a1) K7j tv) ?_
 refine sN ?_
 refine rss hc none [oN,oN,oN,oN,oN,oN,oN,oN,oF] [(1,sL ctx1),(5,.ra 2 0),(8,.ptr [sI a2.fty,sI a2.fneeds,.sl (List.map K0i a2.fkids),I a2.ffault,sI a2.fpath] 0),(23,.bool (a2.ffault != 0))] (ar 6 (rfl : false = false) tv) ?_
 refine ic h (fun a3 h => ?_) fun a3 h => ?_
 ·refine rs0 hc 2 [(6,.nils),(7,.bool false)] [] ?_
  refine rt ?_
  obtain rfl := os h
  exact rq [true,true]
 refine sk ?_
 obtain ⟨⟨a4,a5⟩,a6,h⟩ := Qdd h
 refine rs hc none [oN,oN,oN,some (.call (.tup [.osl (List.map K13 a4),I a5]) [.tup [],.undef,.undef,.undef] 3),oN,oN,oN,oN,oN] [(9,.rs 3)] [(3,.arr (List.map K13 a4))] (ab (Q71.undefs 4 (Knl _ _ a6)) K7k tv) ?_
 refine K88 hc 3 [(6,.rs 3),(7,.bool true)] ?_
 refine rt ?_
 obtain rfl := os h
 exact rq [true,true]
def Knq (c : Ctx) : (Unit) ⊕ (Bool) → Exit → Q0a → Prop
 | .inl _ => Qcz c (.exit 0) (mkS [] [])
 | .inr r => Qd8 TIx Tryz.f29 [] (.bool r)
def Knr (p : (List Int) × (List Int) × Int) : Option ((Unit) ⊕ (Bool)) :=
 match p with
 | (a0,b1,a1) =>
  if (decide (a1 < (a0.length : Int))) = true then
  (idx a0 a1) >>= fun a2 =>
  (idx b1 a1) >>= fun a3 =>
  if (a2 != a3) = true then
  some (.inr false)
  else
  Knr (a0,b1,(wr (a1 + 1)))
  else
  some (.inl ())
 partial_fixpoint
def Kns (p : (List Int) × (List Int) × Int) (fl : (Unit) ⊕ (Bool)) : Prop :=
 match p with
 | (a0,b1,a1) => ∀ c : Ctx,c.nt = 26 → WpL Tryz.prog c (cl (cl (cr (cl (cr (cr B29)))))) (Knq c fl) (mkS [(0,sI a0),(1,sI b1),(5,I a1)] [])
theorem Knt : ∀ p r,Knr p = some r → Kns p r := by
 refine Knr.partial_correctness Kns ?_
 rintro laws_eqIntS_l0_f laws_eqIntS_l0_ih ⟨a0,b1,a1⟩ r h
 intro c hc
 refine WpL.step ?_
 refine sN ?_
 refine rs hc none [oN,oN,some (.eqv (.no) ⟨[(13,I (a0.length : Int))],[],[]⟩),oN] [(0,sI a0),(1,sI b1),(5,I a1),(14,.bool (decide (a1 < (a0.length : Int))))] [] (ai (Qdj (d := 13) I a0) tv) ?_
 refine ic h (fun a2 h => ?_) fun a2 h => ?_
 ·refine sk ?_
  refine sN ?_
  refine bk 1 ?_
  obtain ⟨a3,a4,a5,a6,h⟩ := bq2 h
  refine rs hc Kne [oN,oN,some (.el (I a3)),oN,oN,oN,some (.el (I a5)),oN,oN] [(0,sI a0),(1,sI b1),(5,I a1),(25,.bool (a3 != a5))] [] (ab (ix a4) (ix a6) tv) ?_
  refine ic h (fun a7 h => ?_) fun a7 h => ?_
  ·refine rs0 hc 1 [(4,.bool false)] [] ?_
   refine rt ?_
   obtain rfl := os h
   exact re [true]
  refine sk ?_
  refine rg0 hc 3 [(0,sI a0),(1,sI b1),(5,I (wr (a1 + 1)))] [] ?_
  refine Qcv ?_
  exact (laws_eqIntS_l0_ih _ _ h c hc)
 refine xt 0 ?_
 refine Qcp ?_
 refine Qcw ?_
 obtain rfl := os h
 exact iv []
def Knu (p : (List Int) × (List Int)) : Option (Bool) :=
 match p with
 | (a0,b1) =>
  if ((a0.length : Int) != (b1.length : Int)) = true then
  some false
  else
  (Knr (a0,b1,0)) >>= fun fl => match fl with
  | .inl () =>
   some true
  | .inr r =>
   some r
def Knv (p : (List Int) × (List Int)) (r : Bool) : Prop :=
 match p with
 | (a0,b1) => Q71 Tryz.prog 29 [sI a0,sI b1] (.bool r) []
theorem Knw : ∀ p r,Knu p = some r → Knv p r := by
 rintro ⟨a0,b1⟩ r h
 unfold Knu at h
 refine b0 Tryz.f29 B29 26 [(0,sI a0),(1,sI b1)] fun c hc => ?_
 refine rs0 hc 1 [(0,sI a0),(1,sI b1)] [] ?_
 refine sN ?_
 refine rs hc none [oN,some (.eqv (.no) ⟨[(7,I (a0.length : Int))],[],[]⟩),oN,some (.eqv (.no) ⟨[(9,I (b1.length : Int))],[],[]⟩),oN] [(0,sI a0),(1,sI b1),(10,.bool ((a0.length : Int) != (b1.length : Int)))] [] (ab (Qdj (d := 7) I a0) (Qdj (d := 9) I b1) tv) ?_
 refine ic h (fun a1 h => ?_) fun a1 h => ?_
 ·refine rs0 hc 1 [(4,.bool false)] [] ?_
  refine rt ?_
  obtain rfl := os h
  exact rq [true]
 refine sk ?_
 refine sN ?_
 refine rs0 hc 1 [(0,sI a0),(1,sI b1),(5,I 0)] [] ?_
 refine bk 0 ?_
 obtain ⟨fl,a2,h⟩ := Qdd h
 have hL := Knt _ _ a2 c hc
 refine lp ?_
 rcases fl with ⟨⟩ | r
 ·refine WpL.into (e := (.exit 0)) (mkS [] []) hL ?_
  refine Qcr ?_
  refine rs0 hc 1 [(4,.bool true)] [] ?_
  refine rt ?_
  obtain rfl := os h
  exact rq [true]
 refine WpL.mono hL ?_
 rintro _ _ ⟨rfl,hfin⟩
 obtain rfl := os h
 exact ⟨.inl rfl,hfin⟩
def Knx (c : Ctx) : (Unit) ⊕ (Bool) → Exit → Q0a → Prop
 | .inl _ => Qcz c (.exit 0) (mkS [] [])
 | .inr r => Qd8 TIx Tryz.f20 [] (.bool r)
def Kny (p : LL × LL × Int) : Option ((Unit) ⊕ (Bool)) :=
 match p with
 | (a0,b1,a1) =>
  if (decide (a1 < (a0.length : Int))) = true then
  (idx a0 a1) >>= fun a2 =>
  (idx b1 a1) >>= fun a3 =>
  (Knu (a2,a3)) >>= fun a4 =>
  if a4 = true then
  Kny (a0,b1,(wr (a1 + 1)))
  else
  some (.inr false)
  else
  some (.inl ())
 partial_fixpoint
def Knz (p : LL × LL × Int) (fl : (Unit) ⊕ (Bool)) : Prop :=
 match p with
 | (a0,b1,a1) => ∀ c : Ctx,c.nt = 27 → WpL Tryz.prog c (cl (cl (cr (cl (cr (cr B20)))))) (Knx c fl) (mkS [(0,sL a0),(1,sL b1),(5,I a1)] [])
theorem Ko0 : ∀ p r,Kny p = some r → Knz p r := by
 refine Kny.partial_correctness Knz ?_
 rintro laws_eqIntSS_l0_f laws_eqIntSS_l0_ih ⟨a0,b1,a1⟩ r h
 intro c hc
 refine WpL.step ?_
 refine sN ?_
 refine rs hc none [oN,oN,some (.eqv (.no) ⟨[(13,I (a0.length : Int))],[],[]⟩),oN] [(0,sL a0),(1,sL b1),(5,I a1),(14,.bool (decide (a1 < (a0.length : Int))))] [] (ai (Qdj (d := 13) K07 a0) tv) ?_
 refine ic h (fun a2 h => ?_) fun a2 h => ?_
 ·refine sk ?_
  refine sN ?_
  refine bk 1 ?_
  obtain ⟨a3,a4,a5,a6,a7,a8,h⟩ := bq3 h
  refine rs hc Knf [oN,oN,some (.el (sI a3)),oN,oN,oN,some (.el (sI a5)),oN,oc (.bool a7),oN] [(0,sL a0),(1,sL b1),(5,I a1),(26,.bool (!a7))] [] (ab (xL a4) (xL a6) (cq (Knw _ _ a8) K7n tv)) ?_
  rcases is h with ⟨a9,h⟩ | ⟨a9,h⟩
  ·refine cF (!a7) (nF a9) ?_
   refine sk ?_
   refine rg0 hc 3 [(0,sL a0),(1,sL b1),(5,I (wr (a1 + 1)))] [] ?_
   refine Qcv ?_
   exact (laws_eqIntSS_l0_ih _ _ h c hc)
  refine cT (!a7) (nT a9) ?_
  refine rs0 hc 1 [(4,.bool false)] [] ?_
  refine rt ?_
  obtain rfl := os h
  exact re [true]
 refine xt 0 ?_
 refine Qcp ?_
 refine Qcw ?_
 obtain rfl := os h
 exact iv []
def Ko1 (p : LL × LL) : Option (Bool) :=
 match p with
 | (a0,b1) =>
  if ((a0.length : Int) != (b1.length : Int)) = true then
  some false
  else
  (Kny (a0,b1,0)) >>= fun fl => match fl with
  | .inl () =>
   some true
  | .inr r =>
   some r
def Ko2 (p : LL × LL) (r : Bool) : Prop :=
 match p with
 | (a0,b1) => Q71 Tryz.prog 20 [sL a0,sL b1] (.bool r) []
theorem Ko3 : ∀ p r,Ko1 p = some r → Ko2 p r := by
 rintro ⟨a0,b1⟩ r h
 unfold Ko1 at h
 refine b0 Tryz.f20 B20 27 [(0,sL a0),(1,sL b1)] fun c hc => ?_
 refine rs0 hc 1 [(0,sL a0),(1,sL b1)] [] ?_
 refine sN ?_
 refine rs hc none [oN,some (.eqv (.no) ⟨[(7,I (a0.length : Int))],[],[]⟩),oN,some (.eqv (.no) ⟨[(9,I (b1.length : Int))],[],[]⟩),oN] [(0,sL a0),(1,sL b1),(10,.bool ((a0.length : Int) != (b1.length : Int)))] [] (ab (Qdj (d := 7) K07 a0) (Qdj (d := 9) K07 b1) tv) ?_
 refine ic h (fun a1 h => ?_) fun a1 h => ?_
 ·refine rs0 hc 1 [(4,.bool false)] [] ?_
  refine rt ?_
  obtain rfl := os h
  exact rq [true]
 refine sk ?_
 refine sN ?_
 refine rs0 hc 1 [(0,sL a0),(1,sL b1),(5,I 0)] [] ?_
 refine bk 0 ?_
 obtain ⟨fl,a2,h⟩ := Qdd h
 have hL := Ko0 _ _ a2 c hc
 refine lp ?_
 rcases fl with ⟨⟩ | r
 ·refine WpL.into (e := (.exit 0)) (mkS [] []) hL ?_
  refine Qcr ?_
  refine rs0 hc 1 [(4,.bool true)] [] ?_
  refine rt ?_
  obtain rfl := os h
  exact rq [true]
 refine WpL.mono hL ?_
 rintro _ _ ⟨rfl,hfin⟩
 obtain rfl := os h
 exact ⟨.inl rfl,hfin⟩
def Ko4 (c : Ctx) : (Unit) ⊕ (Bool) → Exit → Q0a → Prop
 | .inl _ => Qcz c (.exit 0) (mkS [] [])
 | .inr r => Qd8 TIx Tryz.f49 [] (.bool r)
mutual
def Ko5 (p : K01 × K01) : Option (Bool) :=
 match p with
 | (a0,b1) =>
  if (a0.fOp != b1.fOp) = true then
  some false
  else
  if (a0.fN != b1.fN) = true then
  some false
  else
  (Knu (a0.fType,b1.fType)) >>= fun a1 =>
  if a1 = true then
  (Ko6 (a0.fKids,b1.fKids)) >>= fun a2 =>
  if a2 = true then
  some true
  else
  some false
  else
  some false
 partial_fixpoint
def Ko6 (p : (List K01) × (List K01)) : Option (Bool) :=
 match p with
 | (a0,b1) =>
  if ((a0.length : Int) != (b1.length : Int)) = true then
  some false
  else
  (Ko7 (a0,b1,0)) >>= fun fl => match fl with
  | .inl () =>
   some true
  | .inr r =>
   some r
 partial_fixpoint
def Ko7 (p : (List K01) × (List K01) × Int) : Option ((Unit) ⊕ (Bool)) :=
 match p with
 | (a0,b1,a1) =>
  if (decide (a1 < (a0.length : Int))) = true then
  (idx a0 a1) >>= fun a2 =>
  (idx b1 a1) >>= fun a3 =>
  (Ko5 (a2,a3)) >>= fun a4 =>
  if a4 = true then
  Ko7 (a0,b1,(wr (a1 + 1)))
  else
  some (.inr false)
  else
  some (.inl ())
 partial_fixpoint
end
def Ko8 (p : K01 × K01) (r : Bool) : Prop :=
 match p with
 | (a0,b1) => Q71 Tryz.prog 21 [K27 a0,K27 b1] (.bool r) []
def Ko9 (p : (List K01) × (List K01)) (r : Bool) : Prop :=
 match p with
 | (a0,b1) => Q71 Tryz.prog 49 [.sl (List.map K0s a0),.sl (List.map K0s b1)] (.bool r) []
def Koa (p : (List K01) × (List K01) × Int) (fl : (Unit) ⊕ (Bool)) : Prop :=
 match p with
 | (a0,b1,a1) => ∀ c : Ctx,c.nt = 27 → WpL Tryz.prog c (cl (cl (cr (cl (cr (cr B49)))))) (Ko4 c fl) (mkS [(0,.sl (List.map K0s a0)),(1,.sl (List.map K0s b1)),(5,I a1)] [])
theorem Kob : (∀ p r,Ko5 p = some r → Ko8 p r) ∧ (∀ p r,Ko6 p = some r → Ko9 p r) ∧ (∀ p r,Ko7 p = some r → Koa p r) := by
 refine Ko5.mutual_partial_correctness Ko8 Ko9 Koa ?_ ?_ ?_
 ·rintro laws_eqTermS_f laws_eqTermS_ih ⟨a0,b1⟩ r h
  refine b0 Tryz.f21 B21 27 [(0,K27 a0),(1,K27 b1)] fun c hc => ?_
  refine rs hc none [some (.new 1),some (.new 2),oN] [(2,.ra 1 0),(3,.ra 2 0)] [(1,K26 a0),(2,K26 b1)] tv ?_
  refine sN ?_
  refine K88 hc 5 [(2,.ra 1 0),(3,.ra 2 0),(9,.bool (a0.fOp != b1.fOp))] ?_
  refine ic h (fun a1 h => ?_) fun a1 h => ?_
  ·refine rs0 hc 1 [(4,.bool false)] [] ?_
   refine rt ?_
   obtain rfl := os h
   exact rq [true]
  refine sk ?_
  refine sN ?_
  refine K88 hc 5 [(2,.ra 1 0),(3,.ra 2 0),(14,.bool (a0.fN != b1.fN))] ?_
  refine ic h (fun a2 h => ?_) fun a2 h => ?_
  ·refine rs0 hc 1 [(4,.bool false)] [] ?_
   refine rt ?_
   obtain rfl := os h
   exact rq [true]
  refine sk ?_
  refine sN ?_
  obtain ⟨a3,a4,h⟩ := Qdd h
  refine rss hc none [oN,oN,oN,oN,oc (.bool a3),oN] [(2,.ra 1 0),(3,.ra 2 0),(20,.bool (!a3))] (cq (Knw _ _ a4) K7n tv) ?_
  rcases is h with ⟨a5,h⟩ | ⟨a5,h⟩
  ·refine cF (!a3) (nF a5) ?_
   refine sk ?_
   refine sN ?_
   obtain ⟨a6,a7,h⟩ := Qdd h
   refine rs hc none [oN,oN,oN,oN,oc (.bool a6),oN] [(26,.bool (!a6))] [] (cq (laws_eqTermS_ih _ _ a7) K7p tv) ?_
   rcases is h with ⟨a8,h⟩ | ⟨a8,h⟩
   ·refine cF (!a6) (nF a8) ?_
    refine sk ?_
    refine rs0 hc 1 [(4,.bool true)] [] ?_
    refine rt ?_
    obtain rfl := os h
    exact rq [true]
   refine cT (!a6) (nT a8) ?_
   refine rs0 hc 1 [(4,.bool false)] [] ?_
   refine rt ?_
   obtain rfl := os h
   exact rq [true]
  refine cT (!a3) (nT a5) ?_
  refine rs0 hc 1 [(4,.bool false)] [] ?_
  refine rt ?_
  obtain rfl := os h
  exact rq [true]
 ·rintro laws_eqTermS_l0_f laws_eqTermS_l0_ih ⟨a0,b1⟩ r h
  refine b0 Tryz.f49 B49 27 [(0,.sl (List.map K0s a0)),(1,.sl (List.map K0s b1))] fun c hc => ?_
  refine rs0 hc 1 [(0,.sl (List.map K0s a0)),(1,.sl (List.map K0s b1))] [] ?_
  refine sN ?_
  refine rs hc none [oN,some (.eqv (.no) ⟨[(7,I (a0.length : Int))],[],[]⟩),oN,some (.eqv (.no) ⟨[(9,I (b1.length : Int))],[],[]⟩),oN] [(0,.sl (List.map K0s a0)),(1,.sl (List.map K0s b1)),(10,.bool ((a0.length : Int) != (b1.length : Int)))] [] (ab (Qdj (d := 7) K0s a0) (Qdj (d := 9) K0s b1) tv) ?_
  refine ic h (fun a1 h => ?_) fun a1 h => ?_
  ·refine rs0 hc 1 [(4,.bool false)] [] ?_
   refine rt ?_
   obtain rfl := os h
   exact rq [true]
  refine sk ?_
  refine sN ?_
  refine rs0 hc 1 [(0,.sl (List.map K0s a0)),(1,.sl (List.map K0s b1)),(5,I 0)] [] ?_
  refine bk 0 ?_
  obtain ⟨fl,a9,h⟩ := Qdd h
  have hL := laws_eqTermS_l0_ih _ _ a9 c hc
  refine lp ?_
  rcases fl with ⟨⟩ | r
  ·refine WpL.into (e := (.exit 0)) (mkS [] []) hL ?_
   refine Qcr ?_
   refine rs0 hc 1 [(4,.bool true)] [] ?_
   refine rt ?_
   obtain rfl := os h
   exact rq [true]
  refine WpL.mono hL ?_
  rintro _ _ ⟨rfl,hfin⟩
  obtain rfl := os h
  exact ⟨.inl rfl,hfin⟩
 ·rintro laws_eqTerm_f laws_eqTermS_l0_f laws_eqTerm_ih laws_eqTermS_l0_ih ⟨a0,b1,b2⟩ r h
  intro c hc
  refine WpL.step ?_
  refine sN ?_
  refine rs hc none [oN,oN,some (.eqv (.no) ⟨[(13,I (a0.length : Int))],[],[]⟩),oN] [(0,.sl (List.map K0s a0)),(1,.sl (List.map K0s b1)),(5,I b2),(14,.bool (decide (b2 < (a0.length : Int))))] [] (ai (Qdj (d := 13) K0s a0) tv) ?_
  refine ic h (fun b3 h => ?_) fun b3 h => ?_
  ·refine sk ?_
   refine sN ?_
   refine bk 1 ?_
   obtain ⟨b4,b5,b6,b7,b8,b9,h⟩ := bq3 h
   refine rs hc Knf [oN,oN,some (.el (K27 b4)),oN,oN,oN,some (.el (K27 b6)),oN,oc (.bool b8),oN] [(0,.sl (List.map K0s a0)),(1,.sl (List.map K0s b1)),(5,I b2),(26,.bool (!b8))] [] (ab (Qdh b5 (K0z b4)) (Qdh b7 (K0z b6)) (cq (laws_eqTerm_ih _ _ b9) K7q tv)) ?_
   rcases is h with ⟨c0,h⟩ | ⟨c0,h⟩
   ·refine cF (!b8) (nF c0) ?_
    refine sk ?_
    refine rg0 hc 3 [(0,.sl (List.map K0s a0)),(1,.sl (List.map K0s b1)),(5,I (wr (b2 + 1)))] [] ?_
    refine Qcv ?_
    exact (laws_eqTermS_l0_ih _ _ h c hc)
   refine cT (!b8) (nT c0) ?_
   refine rs0 hc 1 [(4,.bool false)] [] ?_
   refine rt ?_
   obtain rfl := os h
   exact re [true]
  refine xt 0 ?_
  refine Qcp ?_
  refine Qcw ?_
  obtain rfl := os h
  exact iv []
theorem Koc : ∀ p r,Ko5 p = some r → Ko8 p r := Kob.1
theorem Kod : ∀ p r,Ko6 p = some r → Ko9 p r := Kob.2.1
theorem Koe : ∀ p r,Ko7 p = some r → Koa p r := Kob.2.2
def Kof (p : K02 × K02) : Option (Bool) :=
 match p with
 | (a0,b1) =>
  (Ko1 (a0.fCtx,b1.fCtx)) >>= fun a1 =>
  if a1 = true then
  (Knu (a0.fBudgets,b1.fBudgets)) >>= fun a2 =>
  if a2 = true then
  (Ko5 (a0.fTerm,b1.fTerm)) >>= fun a3 =>
  if a3 = true then
  (Knu (a0.fType,b1.fType)) >>= fun a4 =>
  if a4 = true then
  (Knu (a0.fFrom,b1.fFrom)) >>= fun a5 =>
  if a5 = true then
  some true
  else
  some false
  else
  some false
  else
  some false
  else
  some false
  else
  some false
def Kog (p : K02 × K02) (r : Bool) : Prop :=
 match p with
 | (a0,b1) => Q71 Tryz.prog 42 [K29 a0,K29 b1] (.bool r) []
theorem Koh : ∀ p r,Kof p = some r → Kog p r := by
 rintro ⟨a0,b1⟩ r h
 unfold Kof at h
 refine b0 Tryz.f42 B42 35 [(0,K29 a0),(1,K29 b1)] fun c hc => ?_
 refine rs hc none [some (.new 1),some (.new 2),oN] [(2,.ra 1 0),(3,.ra 2 0)] [(1,K28 a0),(2,K28 b1)] tv ?_
 refine sN ?_
 obtain ⟨a1,a2,h⟩ := Qdd h
 refine rss hc none [oN,oN,oN,oN,oc (.bool a1),oN] [(2,.ra 1 0),(3,.ra 2 0),(10,.bool (!a1))] (cq (Ko3 _ _ a2) K7o tv) ?_
 rcases is h with ⟨a3,h⟩ | ⟨a3,h⟩
 ·refine cF (!a1) (nF a3) ?_
  refine sk ?_
  refine sN ?_
  obtain ⟨a4,a5,h⟩ := Qdd h
  refine rss hc none [oN,oN,oN,oN,oc (.bool a4),oN] [(2,.ra 1 0),(3,.ra 2 0),(16,.bool (!a4))] (cq (Knw _ _ a5) K7n tv) ?_
  rcases is h with ⟨a6,h⟩ | ⟨a6,h⟩
  ·refine cF (!a4) (nF a6) ?_
   refine sk ?_
   refine sN ?_
   obtain ⟨a7,a8,h⟩ := Qdd h
   refine rss hc none [oN,oN,oN,oN,oc (.bool a7),oN] [(2,.ra 1 0),(3,.ra 2 0),(22,.bool (!a7))] (cq (Koc _ _ a8) K7q tv) ?_
   rcases is h with ⟨a9,h⟩ | ⟨a9,h⟩
   ·refine cF (!a7) (nF a9) ?_
    refine sk ?_
    refine sN ?_
    obtain ⟨b2,b3,h⟩ := Qdd h
    refine rss hc none [oN,oN,oN,oN,oc (.bool b2),oN] [(2,.ra 1 0),(3,.ra 2 0),(28,.bool (!b2))] (cq (Knw _ _ b3) K7n tv) ?_
    rcases is h with ⟨b4,h⟩ | ⟨b4,h⟩
    ·refine cF (!b2) (nF b4) ?_
     refine sk ?_
     refine sN ?_
     obtain ⟨b5,b6,h⟩ := Qdd h
     refine rs hc none [oN,oN,oN,oN,oc (.bool b5),oN] [(34,.bool (!b5))] [] (cq (Knw _ _ b6) K7n tv) ?_
     rcases is h with ⟨b7,h⟩ | ⟨b7,h⟩
     ·refine cF (!b5) (nF b7) ?_
      refine sk ?_
      refine rs0 hc 1 [(4,.bool true)] [] ?_
      refine rt ?_
      obtain rfl := os h
      exact rq [true]
     refine cT (!b5) (nT b7) ?_
     refine rs0 hc 1 [(4,.bool false)] [] ?_
     refine rt ?_
     obtain rfl := os h
     exact rq [true]
    refine cT (!b2) (nT b4) ?_
    refine rs0 hc 1 [(4,.bool false)] [] ?_
    refine rt ?_
    obtain rfl := os h
    exact rq [true]
   refine cT (!a7) (nT a9) ?_
   refine rs0 hc 1 [(4,.bool false)] [] ?_
   refine rt ?_
   obtain rfl := os h
   exact rq [true]
  refine cT (!a4) (nT a6) ?_
  refine rs0 hc 1 [(4,.bool false)] [] ?_
  refine rt ?_
  obtain rfl := os h
  exact rq [true]
 refine cT (!a1) (nT a3) ?_
 refine rs0 hc 1 [(4,.bool false)] [] ?_
 refine rt ?_
 obtain rfl := os h
 exact rq [true]
def Koi (c : Ctx) : (Unit) ⊕ (Bool) → Exit → Q0a → Prop
 | .inl _ => Qcz c (.exit 0) (mkS [] [])
 | .inr r => Qd8 TIx Tryz.f13 [] (.bool r)
def Koj (p : (List K02) × (List K02) × Int) : Option ((Unit) ⊕ (Bool)) :=
 match p with
 | (a0,b1,a1) =>
  if (decide (a1 < (a0.length : Int))) = true then
  (idx a0 a1) >>= fun a2 =>
  (idx b1 a1) >>= fun a3 =>
  (Kof (a2,a3)) >>= fun a4 =>
  if a4 = true then
  Koj (a0,b1,(wr (a1 + 1)))
  else
  some (.inr false)
  else
  some (.inl ())
 partial_fixpoint
def Kok (p : (List K02) × (List K02) × Int) (fl : (Unit) ⊕ (Bool)) : Prop :=
 match p with
 | (a0,b1,a1) => ∀ c : Ctx,c.nt = 27 → WpL Tryz.prog c (cl (cl (cr (cl (cr (cr B13)))))) (Koi c fl) (mkS [(0,.sl (List.map K12 a0)),(1,.sl (List.map K12 b1)),(5,I a1)] [])
theorem Kol : ∀ p r,Koj p = some r → Kok p r := by
 refine Koj.partial_correctness Kok ?_
 rintro laws_eqJudgmentS_l0_f laws_eqJudgmentS_l0_ih ⟨a0,b1,a1⟩ r h
 intro c hc
 refine WpL.step ?_
 refine sN ?_
 refine rs hc none [oN,oN,some (.eqv (.no) ⟨[(13,I (a0.length : Int))],[],[]⟩),oN] [(0,.sl (List.map K12 a0)),(1,.sl (List.map K12 b1)),(5,I a1),(14,.bool (decide (a1 < (a0.length : Int))))] [] (ai (Qdj (d := 13) K12 a0) tv) ?_
 refine ic h (fun a2 h => ?_) fun a2 h => ?_
 ·refine sk ?_
  refine sN ?_
  refine bk 1 ?_
  obtain ⟨a3,a4,a5,a6,a7,a8,h⟩ := bq3 h
  refine rs hc Knf [oN,oN,some (.el (K29 a3)),oN,oN,oN,some (.el (K29 a5)),oN,oc (.bool a7),oN] [(0,.sl (List.map K12 a0)),(1,.sl (List.map K12 b1)),(5,I a1),(26,.bool (!a7))] [] (ab (Qdh a4 (K1l a3)) (Qdh a6 (K1l a5)) (cq (Koh _ _ a8) K7r tv)) ?_
  rcases is h with ⟨a9,h⟩ | ⟨a9,h⟩
  ·refine cF (!a7) (nF a9) ?_
   refine sk ?_
   refine rg0 hc 3 [(0,.sl (List.map K12 a0)),(1,.sl (List.map K12 b1)),(5,I (wr (a1 + 1)))] [] ?_
   refine Qcv ?_
   exact (laws_eqJudgmentS_l0_ih _ _ h c hc)
  refine cT (!a7) (nT a9) ?_
  refine rs0 hc 1 [(4,.bool false)] [] ?_
  refine rt ?_
  obtain rfl := os h
  exact re [true]
 refine xt 0 ?_
 refine Qcp ?_
 refine Qcw ?_
 obtain rfl := os h
 exact iv []
def Kom (p : (List K02) × (List K02)) : Option (Bool) :=
 match p with
 | (a0,b1) =>
  if ((a0.length : Int) != (b1.length : Int)) = true then
  some false
  else
  (Koj (a0,b1,0)) >>= fun fl => match fl with
  | .inl () =>
   some true
  | .inr r =>
   some r
def Kon (p : (List K02) × (List K02)) (r : Bool) : Prop :=
 match p with
 | (a0,b1) => Q71 Tryz.prog 13 [.sl (List.map K12 a0),.sl (List.map K12 b1)] (.bool r) []
theorem Koo : ∀ p r,Kom p = some r → Kon p r := by
 rintro ⟨a0,b1⟩ r h
 unfold Kom at h
 refine b0 Tryz.f13 B13 27 [(0,.sl (List.map K12 a0)),(1,.sl (List.map K12 b1))] fun c hc => ?_
 refine rs0 hc 1 [(0,.sl (List.map K12 a0)),(1,.sl (List.map K12 b1))] [] ?_
 refine sN ?_
 refine rs hc none [oN,some (.eqv (.no) ⟨[(7,I (a0.length : Int))],[],[]⟩),oN,some (.eqv (.no) ⟨[(9,I (b1.length : Int))],[],[]⟩),oN] [(0,.sl (List.map K12 a0)),(1,.sl (List.map K12 b1)),(10,.bool ((a0.length : Int) != (b1.length : Int)))] [] (ab (Qdj (d := 7) K12 a0) (Qdj (d := 9) K12 b1) tv) ?_
 refine ic h (fun a1 h => ?_) fun a1 h => ?_
 ·refine rs0 hc 1 [(4,.bool false)] [] ?_
  refine rt ?_
  obtain rfl := os h
  exact rq [true]
 refine sk ?_
 refine sN ?_
 refine rs0 hc 1 [(0,.sl (List.map K12 a0)),(1,.sl (List.map K12 b1)),(5,I 0)] [] ?_
 refine bk 0 ?_
 obtain ⟨fl,a2,h⟩ := Qdd h
 have hL := Kol _ _ a2 c hc
 refine lp ?_
 rcases fl with ⟨⟩ | r
 ·refine WpL.into (e := (.exit 0)) (mkS [] []) hL ?_
  refine Qcr ?_
  refine rs0 hc 1 [(4,.bool true)] [] ?_
  refine rt ?_
  obtain rfl := os h
  exact rq [true]
 refine WpL.mono hL ?_
 rintro _ _ ⟨rfl,hfin⟩
 obtain rfl := os h
 exact ⟨.inl rfl,hfin⟩
def Kop (c : Ctx) : (Unit) ⊕ (Bool) → Exit → Q0a → Prop
 | .inl _ => Qcz c (.exit 0) (mkS [] [])
 | .inr r => Qd8 TIx Tryz.f41 [] (.bool r)
def Koq (p : (List Bool) × (List Bool) × Int) : Option ((Unit) ⊕ (Bool)) :=
 match p with
 | (a0,b1,a1) =>
  if (decide (a1 < (a0.length : Int))) = true then
  (idx a0 a1) >>= fun a2 =>
  (idx b1 a1) >>= fun a3 =>
  if (a2 == a3) = true then
  Koq (a0,b1,(wr (a1 + 1)))
  else
  some (.inr false)
  else
  some (.inl ())
 partial_fixpoint
def Kor (p : (List Bool) × (List Bool) × Int) (fl : (Unit) ⊕ (Bool)) : Prop :=
 match p with
 | (a0,b1,a1) => ∀ c : Ctx,c.nt = 26 → WpL Tryz.prog c (cl (cl (cr (cl (cr (cr B41)))))) (Kop c fl) (mkS [(0,sB a0),(1,sB b1),(5,I a1)] [])
theorem Kos : ∀ p r,Koq p = some r → Kor p r := by
 refine Koq.partial_correctness Kor ?_
 rintro laws_eqBoolS_l0_f laws_eqBoolS_l0_ih ⟨a0,b1,a1⟩ r h
 intro c hc
 refine WpL.step ?_
 refine sN ?_
 refine rs hc none [oN,oN,some (.eqv (.no) ⟨[(13,I (a0.length : Int))],[],[]⟩),oN] [(0,sB a0),(1,sB b1),(5,I a1),(14,.bool (decide (a1 < (a0.length : Int))))] [] (ai (Qdj (d := 13) AV.bool a0) tv) ?_
 refine ic h (fun a2 h => ?_) fun a2 h => ?_
 ·refine sk ?_
  refine sN ?_
  refine bk 1 ?_
  obtain ⟨a3,a4,a5,a6,h⟩ := bq2 h
  refine rs hc Kne [oN,oN,some (.el (.bool a3)),oN,oN,oN,some (.el (.bool a5)),oN,oN] [(0,sB a0),(1,sB b1),(5,I a1),(25,.bool (!(a3 == a5)))] [] (ab (Qdh (enc := AV.bool) (x := .bool a3) a4 (Qdu a3)) (Qdh (enc := AV.bool) (x := .bool a5) a6 (Qdu a5)) tv) ?_
  rcases is h with ⟨a7,h⟩ | ⟨a7,h⟩
  ·refine cF ((!(a3 == a5))) (nF a7) ?_
   refine sk ?_
   refine rg0 hc 3 [(0,sB a0),(1,sB b1),(5,I (wr (a1 + 1)))] [] ?_
   refine Qcv ?_
   exact (laws_eqBoolS_l0_ih _ _ h c hc)
  refine cT ((!(a3 == a5))) (nT a7) ?_
  refine rs0 hc 1 [(4,.bool false)] [] ?_
  refine rt ?_
  obtain rfl := os h
  exact re [true]
 refine xt 0 ?_
 refine Qcp ?_
 refine Qcw ?_
 obtain rfl := os h
 exact iv []
def Kot (p : (List Bool) × (List Bool)) : Option (Bool) :=
 match p with
 | (a0,b1) =>
  if ((a0.length : Int) != (b1.length : Int)) = true then
  some false
  else
  (Koq (a0,b1,0)) >>= fun fl => match fl with
  | .inl () =>
   some true
  | .inr r =>
   some r
def Kou (p : (List Bool) × (List Bool)) (r : Bool) : Prop :=
 match p with
 | (a0,b1) => Q71 Tryz.prog 41 [sB a0,sB b1] (.bool r) []
theorem Kov : ∀ p r,Kot p = some r → Kou p r := by
 rintro ⟨a0,b1⟩ r h
 unfold Kot at h
 refine b0 Tryz.f41 B41 26 [(0,sB a0),(1,sB b1)] fun c hc => ?_
 refine rs0 hc 1 [(0,sB a0),(1,sB b1)] [] ?_
 refine sN ?_
 refine rs hc none [oN,some (.eqv (.no) ⟨[(7,I (a0.length : Int))],[],[]⟩),oN,some (.eqv (.no) ⟨[(9,I (b1.length : Int))],[],[]⟩),oN] [(0,sB a0),(1,sB b1),(10,.bool ((a0.length : Int) != (b1.length : Int)))] [] (ab (Qdj (d := 7) AV.bool a0) (Qdj (d := 9) AV.bool b1) tv) ?_
 refine ic h (fun a1 h => ?_) fun a1 h => ?_
 ·refine rs0 hc 1 [(4,.bool false)] [] ?_
  refine rt ?_
  obtain rfl := os h
  exact rq [true]
 refine sk ?_
 refine sN ?_
 refine rs0 hc 1 [(0,sB a0),(1,sB b1),(5,I 0)] [] ?_
 refine bk 0 ?_
 obtain ⟨fl,a2,h⟩ := Qdd h
 have hL := Kos _ _ a2 c hc
 refine lp ?_
 rcases fl with ⟨⟩ | r
 ·refine WpL.into (e := (.exit 0)) (mkS [] []) hL ?_
  refine Qcr ?_
  refine rs0 hc 1 [(4,.bool true)] [] ?_
  refine rt ?_
  obtain rfl := os h
  exact rq [true]
 refine WpL.mono hL ?_
 rintro _ _ ⟨rfl,hfin⟩
 obtain rfl := os h
 exact ⟨.inl rfl,hfin⟩
def Kow (p : K00 × K00) : Option (Bool) :=
 match p with
 | (a0,b1) =>
  if (a0.fSize != b1.fSize) = true then
  some false
  else
  (Knu (a0.fPlus,b1.fPlus)) >>= fun a1 =>
  if a1 = true then
  (Knu (a0.fTimes,b1.fTimes)) >>= fun a2 =>
  if a2 = true then
  (Kot (a0.fBelow,b1.fBelow)) >>= fun a3 =>
  if a3 = true then
  some true
  else
  some false
  else
  some false
  else
  some false
def Kox (p : K00 × K00) (r : Bool) : Prop :=
 match p with
 | (a0,b1) => Q71 Tryz.prog 12 [K25 a0,K25 b1] (.bool r) []
theorem Koy : ∀ p r,Kow p = some r → Kox p r := by
 rintro ⟨a0,b1⟩ r h
 unfold Kow at h
 refine b0 Tryz.f12 B12 28 [(0,K25 a0),(1,K25 b1)] fun c hc => ?_
 refine rs hc none [some (.new 1),some (.new 2),oN] [(2,.ra 1 0),(3,.ra 2 0)] [(1,K24 a0),(2,K24 b1)] tv ?_
 refine sN ?_
 refine K88 hc 5 [(2,.ra 1 0),(3,.ra 2 0),(9,.bool (a0.fSize != b1.fSize))] ?_
 refine ic h (fun a1 h => ?_) fun a1 h => ?_
 ·refine rs0 hc 1 [(4,.bool false)] [] ?_
  refine rt ?_
  obtain rfl := os h
  exact rq [true]
 refine sk ?_
 refine sN ?_
 obtain ⟨a2,a3,h⟩ := Qdd h
 refine rss hc none [oN,oN,oN,oN,oc (.bool a2),oN] [(2,.ra 1 0),(3,.ra 2 0),(15,.bool (!a2))] (cq (Knw _ _ a3) K7n tv) ?_
 rcases is h with ⟨a4,h⟩ | ⟨a4,h⟩
 ·refine cF (!a2) (nF a4) ?_
  refine sk ?_
  refine sN ?_
  obtain ⟨a5,a6,h⟩ := Qdd h
  refine rss hc none [oN,oN,oN,oN,oc (.bool a5),oN] [(2,.ra 1 0),(3,.ra 2 0),(21,.bool (!a5))] (cq (Knw _ _ a6) K7n tv) ?_
  rcases is h with ⟨a7,h⟩ | ⟨a7,h⟩
  ·refine cF (!a5) (nF a7) ?_
   refine sk ?_
   refine sN ?_
   obtain ⟨a8,a9,h⟩ := Qdd h
   refine rs hc none [oN,oN,oN,oN,oc (.bool a8),oN] [(27,.bool (!a8))] [] (cq (Kov _ _ a9) K7t tv) ?_
   rcases is h with ⟨b2,h⟩ | ⟨b2,h⟩
   ·refine cF (!a8) (nF b2) ?_
    refine sk ?_
    refine rs0 hc 1 [(4,.bool true)] [] ?_
    refine rt ?_
    obtain rfl := os h
    exact rq [true]
   refine cT (!a8) (nT b2) ?_
   refine rs0 hc 1 [(4,.bool false)] [] ?_
   refine rt ?_
   obtain rfl := os h
   exact rq [true]
  refine cT (!a5) (nT a7) ?_
  refine rs0 hc 1 [(4,.bool false)] [] ?_
  refine rt ?_
  obtain rfl := os h
  exact rq [true]
 refine cT (!a2) (nT a4) ?_
 refine rs0 hc 1 [(4,.bool false)] [] ?_
 refine rt ?_
 obtain rfl := os h
 exact rq [true]
def Koz (c : Ctx) : Int × (List Int) → Exit → Q0a → Prop
 | (a0,a1) => Qcz c (.exit 0) (mkS [(1,I a0)] [(1000,rI a1)])
def Kp0 (p : (List Int) × Int × Int) : Option (Int × (List Int)) :=
 match p with
 | (a0,a1,a2) =>
  if (decide (a2 < (a0.length : Int))) = true then
  (idx a0 a2) >>= fun a3 =>
  Kp0 ((List.set a0 (Int.toNat a2) a1),(wr (a1 + 1)),(wr (a2 + 1)))
  else
  some ((a1,a0))
 partial_fixpoint
def Kp1 (p : (List Int) × Int × Int) (fl : Int × (List Int)) : Prop :=
 match p with
 | (a0,a1,a2) => ∀ c : Ctx,c.nt = 19 → WpL Tryz.prog c (cl (cl (cr (cl (cr B30))))) (Koz c fl) (mkS [(0,.rs 1000),(1,I a1),(5,I a2)] [(1000,rI a0)])
theorem Kp2 : ∀ p r,Kp0 p = some r → Kp1 p r := by
 refine Kp0.partial_correctness Kp1 ?_
 rintro laws_markIntS_l0_f laws_markIntS_l0_ih ⟨a0,a1,a2⟩ r h
 intro c hc
 refine WpL.step ?_
 refine sN ?_
 refine rss hc none [oN,oN,some (.eqv (.no) ⟨[(8,I (a0.length : Int))],[],[]⟩),oN] [(0,.rs 1000),(1,I a1),(5,I a2),(9,.bool (decide (a2 < (a0.length : Int))))] (ai (Qdj (d := 8) I a0) tv) ?_
 refine ic h (fun a3 h => ?_) fun a3 h => ?_
 ·refine sk ?_
  refine sN ?_
  refine bk 1 ?_
  obtain ⟨a4,a5,h⟩ := Qdd h
  refine rs hc none [oN,oN,oN,oN,some (.eqv (.mk 0 true) ⟨[],[(1000,some (.arr (List.map I (List.set a0 (Int.toNat a2) a1))))],[]⟩)] [(0,.rs 1000),(1,I a1),(5,I a2)] [(1000,.arr (List.map I (List.set a0 (Int.toNat a2) a1)))] (ac (Qdi (enc := I) a5) (congrArg (fun z => (⟨[],[(1000,some (.arr z))],[]⟩ : Wr)) (Qeg (enc := I) (i := Int.toNat a2) (l := a0) (v := a1) (x := I a1) (Qds a1))) (Qeh (enc := I) (sz := 1) Qdw a5) tv) ?_
  refine K87 hc 3 [(0,.rs 1000),(1,I (wr (a1 + 1))),(5,I a2)] ?_
  refine K87 hc 3 [(0,.rs 1000),(1,I (wr (a1 + 1))),(5,I (wr (a2 + 1)))] ?_
  refine Qcv ?_
  exact (laws_markIntS_l0_ih _ _ h c hc)
 refine xt 0 ?_
 refine Qcp ?_
 refine Qcw ?_
 obtain ⟨rfl,rfl⟩ := Prod.mk.inj (Option.some.inj h)
 exact iv []
def Kp3 (p : (List Int) × Int) : Option (Int × (List Int)) :=
 match p with
 | (a0,k1) =>
  (Kp0 (a0,k1,0)) >>= fun (a1,a2) =>
  some (a1,a2)
def Kp4 (p : (List Int) × Int) (r : Int × (List Int)) : Prop :=
 match p with
 | (a0,k1) => Q71 Tryz.prog 30 [oI a0,I k1] (I r.1) [oI r.2,.undef]
theorem Kp5 : ∀ p r,Kp3 p = some r → Kp4 p r := by
 rintro ⟨a0,k1⟩ r h
 unfold Kp3 at h
 refine Q71.bodyO K3e (fn := Tryz.f30) (code := B30) (by kernel_rfl) (by kernel_rfl) (by kernel_rfl) (nt := 19) (by kernel_rfl) (by kernel_rfl) (T := [(0,.rs 1000),(1,I k1)]) (O := [(1000,rI a0)]) (by kernel_rfl) (by kernel_rfl) (fun c hc => ?_)
 refine K88 hc 1 [(0,.rs 1000),(1,I k1)] ?_
 refine sN ?_
 refine K88 hc 1 [(0,.rs 1000),(1,I k1),(5,I 0)] ?_
 refine bk 0 ?_
 obtain ⟨⟨a1,a2⟩,a3,h⟩ := Qdd h
 have hL := Kp2 _ _ a3 c hc
 refine lp ?_
 refine WpL.into (e := (.exit 0)) (mkS [(1,I a1)] [(1000,rI a2)]) hL ?_
 refine Qcr ?_
 refine K88 hc 2 [(4,I a1)] ?_
 refine rt ?_
 obtain rfl := os h
 exact Qda.ret (fl := [true]) (by kernel_rfl)
def Kp6 (c : Ctx) : Int × (List Bool) → Exit → Q0a → Prop
 | (a0,a1) => Qcz c (.exit 0) (mkS [(1,I a0)] [(1000,.arr (List.map AV.bool a1))])
end Go.Am
