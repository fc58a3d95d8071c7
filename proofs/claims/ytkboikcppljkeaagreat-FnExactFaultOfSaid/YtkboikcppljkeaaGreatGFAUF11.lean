/- Functions of the program as pure functions,and that it computes them. Printed by a program of mine (gen.py). -/
import Derived.Test.YtkboikcppljkeaaGreatGFAUF8
set_option linter.unusedVariables false
set_option linter.unusedSimpArgs false
set_option maxRecDepth 100000
namespace Go.Am
open Go Go.Proofs
def Kl7 : Option (List (List Nat)) := rx [[0],[1],[2],[3],[4],[5],[6],[7],[8],[9],[10],[11],[8],[8,12],[8,12,13],[8,12,13,14],[8,12,13,14,15],[8,12,13,14,15,16],[8,12,13,14,15,16,17],[8,12,13,14,15,16,17,18],[8,12,13,14,15,16,17,18,19],[8,12,13,14,15,16,17,18,19,20],[8,12,13,14,15,16,17,18,19,20,21],[8,12,13,14,15,16,17,18,19,20,21,22],[24],[25],[26]]
def Kl8 : Option (List (List Nat)) := rx [[0],[0],[2],[3],[0],[0],[0,4,5],[0,4,5,6],[8]]
mutual
def Kl9 (p : K05 × LL × K01) : Option (K03) :=
 match p with
 | (p0,ctx1,t2) =>
  (chk (0 ≤ (ctx1.length : Int) ∧ (Int.toNat (ctx1.length : Int)) * 8 ≤ 140737488355328)) >>= fun _ =>
  (Kla (p0,ctx1,t2,[],[],[],0)) >>= fun fl => match fl with
  | .inl (a0,a1,a2) =>
   (Kl3 (p0,(K03.mk [] (List.replicate (Int.toNat (ctx1.length : Int)) 0) a0 0 []),ctx1,t2,a1,a2)) >>= fun (a3,a4) =>
   if (a3 != 0) = true then
   some (K03.mk [] [] [] a3 [])
   else
   some (K03.mk a4.fty a4.fneeds a4.fkids a3 [])
  | .inr r =>
   some r
 partial_fixpoint
def Kla (p : K05 × LL × K01 × (List K03) × LL × LL × Int) : Option (((List K03) × LL × LL) ⊕ (K03)) :=
 match p with
 | (p0,ctx1,t2,a0,a1,a2,a3) =>
  if (decide (a3 < (t2.fKids.length : Int))) = true then
  (idx t2.fKids a3) >>= fun a4 =>
  ((
  if (decide (a3 > 0)) = true then
  some (true)
  else
  some ((t2.fOp == 9))
  ) : Option (Bool)) >>= fun a5 =>
  ((
  if a5 = true then
  ((
  if (decide (a3 > 0)) = true then
  (idx a0 0) >>= fun a6 =>
  some (a6.fty)
  else
  some ([])
  ) : Option ((List Int))) >>= fun a7 =>
  (Ki0 (t2,a3,a7)) >>= fun a8 =>
  some (a8)
  else
  some ([])
  ) : Option (LL)) >>= fun a9 =>
  (Kie [a9,ctx1]) >>= fun b1 =>
  (Kl9 (p0,b1,a4)) >>= fun b2 =>
  if (b2.ffault != 0) = true then
  (Qdq ([a3].length + b2.fpath.length) 8) >>= fun _ =>
  some (.inr (K03.mk [] [] [] b2.ffault ([a3] ++ b2.fpath)))
  else
  (Kii (p0,t2,a3,b2.fty)) >>= fun b3 =>
  if (b3 != 0) = true then
  some (.inr (K03.mk [] [] [] b3 []))
  else
  ((
  if (t2.fOp == 10) = true then
  if (a3 == 1) = true then
  (idx a0 0) >>= fun b4 =>
  (Khx b4.fty) >>= fun b5 =>
  (idx b5 0) >>= fun b6 =>
  (Kip (b2.fty,b6)) >>= fun b7 =>
  some ((!b7))
  else
  some (false)
  else
  some (false)
  ) : Option (Bool)) >>= fun b8 =>
  if b8 = true then
  some (.inr (K03.mk [] [] [] 3 []))
  else
  (Qdq (a0.length + [b2].length) 8) >>= fun _ =>
  (cut b2.fneeds none (some (a9.length : Int)) none) >>= fun b9 =>
  (Qdq (a2.length + [b9].length) 24) >>= fun _ =>
  (cut b2.fneeds (some (a9.length : Int)) none none) >>= fun c0 =>
  (Qdq (a1.length + [c0].length) 24) >>= fun _ =>
  Kla (p0,ctx1,t2,(a0 ++ [b2]),(a1 ++ [c0]),(a2 ++ [b9]),(wr (a3 + 1)))
  else
  some (.inl (a0,a1,a2))
 partial_fixpoint
end
def Klb (p : K05 × LL × K01) (r : K03) : Prop :=
 match p with
 | (p0,ctx1,t2) => Q71 Tryz.prog 86 [K22 p0,sL ctx1,K1w t2] (.optr [sI r.fty,sI r.fneeds,.sl (List.map K06 r.fkids),I r.ffault,oI r.fpath]) []
def Klc (p : K05 × LL × K01 × (List K03) × LL × LL × Int) (fl : ((List K03) × LL × LL) ⊕ (K03)) : Prop :=
 match p with
 | (p0,ctx1,t2,a0,a1,a2,a3) => ∀ c : Ctx,c.nt = 171 → WpL Tryz.prog c (cl (cl (cr (cl (cr (cr (cr (cr B86)))))))) (Kl6 c p0 ctx1 t2 fl) (mkS [(1,sL ctx1),(3,.ra 1 0),(5,.ra 2 0),(7,.ra 4 0),(8,.rs 24),(9,.rs 25),(22,.sl (List.map K0h t2.fKids)),(23,I (t2.fKids.length : Int)),(24,I a3)] [(1,K21 p0),(2,K1v t2),(3,.arr (List.map I (List.replicate (Int.toNat (ctx1.length : Int)) 0))),(4,.box [.nils,.rs 3,.rs 23,I 0,.nils]),(23,.arr (List.map K06 a0)),(24,.arr (List.map K11 a1)),(25,.arr (List.map K11 a2))])
theorem Kld : (∀ p r,Kl9 p = some r → Klb p r) ∧ (∀ p r,Kla p = some r → Klc p r) := by
 refine Kl9.mutual_partial_correctness Klb Klc ?_ ?_
 ·rintro impl_typertyp_l0_f impl_typertyp_l0_ih ⟨p0,ctx1,t2⟩ r h
  refine b0 Tryz.f86 B86 171 [(0,K22 p0),(1,sL ctx1),(2,K1w t2)] fun c hc => ?_
  refine rs hc none [some (.new 1),some (.new 2),oN] [(1,sL ctx1),(3,.ra 1 0),(5,.ra 2 0)] [(1,K21 p0),(2,K1v t2)] tv ?_
  obtain ⟨_,a0,h⟩ := Qdd h
  refine rs hc none [oN,some (.eqv (.no) ⟨[(17,I (ctx1.length : Int))],[],[]⟩),some (.eqv (.mk 3 true) ⟨[(18,.rs 3)],[(3,some (.arr (List.map I (List.replicate (Int.toNat (ctx1.length : Int)) 0))))],[3]⟩),oN,some (.new 4),oN] [(1,sL ctx1),(3,.ra 1 0),(5,.ra 2 0),(7,.ra 4 0)] [(1,K21 p0),(2,K1v t2),(3,.arr (List.map I (List.replicate (Int.toNat (ctx1.length : Int)) 0))),(4,.box [.nils,.rs 3,.nils,I 0,.nils])] (ac (Qdj (d := 17) K11 ctx1) (congrArg (fun z => (⟨[(18,.rs 3)],[(3,some (.arr z))],[3]⟩ : Wr)) (Qei (enc := I) (n := Int.toNat (ctx1.length : Int)) (x := I 0) (Qds 0))) (And.intro (Eq.refl (ctx1.length : Int)) (Qdf a0)) tv) ?_
  refine K7f hc 1 [(1,sL ctx1),(3,.ra 1 0),(5,.ra 2 0),(7,.ra 4 0),(8,.nils)] ?_
  refine K7f hc 1 [(1,sL ctx1),(3,.ra 1 0),(5,.ra 2 0),(7,.ra 4 0),(8,.nils),(9,.nils)] ?_
  refine sN ?_
  refine rss hc none [oN,oN,some (.eqv (.no) ⟨[(23,I (t2.fKids.length : Int))],[],[]⟩),oN] [(1,sL ctx1),(3,.ra 1 0),(5,.ra 2 0),(7,.ra 4 0),(8,.nils),(9,.nils),(22,.sl (List.map K0h t2.fKids)),(23,I (t2.fKids.length : Int)),(24,I 0)] (ai (Qdj (d := 23) K0h t2.fKids) tv) ?_
  refine bk 0 ?_
  obtain ⟨fl,a1,h⟩ := Qdd h
  have hL := impl_typertyp_l0_ih _ _ a1 c hc
  refine Wp.loopN (by kernel_rfl) (WpL.view (fun a w hv => SRx.renL [(23,66),(24,67),(25,68)] (SRx.nilTL 9 68 (SRx.nilTL 8 67 (SRx.nilBL 4 2 66 [.nils,.rs 3,.nils,I 0,.nils] hv (by kernel_rfl) (by kernel_rfl) (by kernel_rfl)) (by kernel_rfl) (by kernel_rfl)) (by kernel_rfl) (by kernel_rfl)) (by kernel_rfl) (by kernel_rfl) (by kernel_rfl)) (?_ : WpL _ c _ _ (mkS [(1,sL ctx1),(3,.ra 1 0),(5,.ra 2 0),(7,.ra 4 0),(8,.rs 24),(9,.rs 25),(22,.sl (List.map K0h t2.fKids)),(23,I (t2.fKids.length : Int)),(24,I 0)] [(1,K21 p0),(2,K1v t2),(3,.arr (List.map I (List.replicate (Int.toNat (ctx1.length : Int)) 0))),(4,.box [.nils,.rs 3,.rs 23,I 0,.nils]),(23,.arr (List.map K06 [])),(24,.arr (List.map K11 [])),(25,.arr (List.map K11 []))])))
  rcases fl with ⟨a2,a3,a4⟩ | r
  ·refine WpL.into (e := (.exit 0)) (mkS [(1,sL ctx1),(3,.ra 1 0),(5,.ra 2 0),(7,.ra 4 0),(8,.rs 24),(9,.rs 25)] [(1,K21 p0),(2,K1v t2),(3,.arr (List.map I (List.replicate (Int.toNat (ctx1.length : Int)) 0))),(4,.box [.nils,.rs 3,.rs 23,I 0,.nils]),(23,.arr (List.map K06 a2)),(24,.arr (List.map K11 a3)),(25,.arr (List.map K11 a4))]) hL ?_
   refine Qcr ?_
   refine sN ?_
   refine vz 24 (K15 a3) [(1,sL ctx1),(3,.ra 1 0),(5,.ra 2 0),(7,.ra 4 0),(8,sL a3),(9,.rs 25)] [(1,K21 p0),(2,K1v t2),(3,.arr (List.map I (List.replicate (Int.toNat (ctx1.length : Int)) 0))),(4,.box [.nils,.rs 3,.rs 23,I 0,.nils]),(23,.arr (List.map K06 a2)),(25,.arr (List.map K11 a4))] ?_
   refine vz 25 (K15 a4) [(1,sL ctx1),(3,.ra 1 0),(5,.ra 2 0),(7,.ra 4 0),(8,sL a3),(9,sL a4)] [(1,K21 p0),(2,K1v t2),(3,.arr (List.map I (List.replicate (Int.toNat (ctx1.length : Int)) 0))),(4,.box [.nils,.rs 3,.rs 23,I 0,.nils]),(23,.arr (List.map K06 a2))] ?_
   obtain ⟨⟨a5,a6⟩,a7,h⟩ := Qdd h
   refine rg hc none [oN,oN,oN,oN,oN,oN,oN,some (.call (I a5) [.undef,.optr [sI a6.fty,sI a6.fneeds,.sl (List.map K06 a6.fkids),I a6.ffault,.nils],.undef,.undef,.undef,.undef] 1),oN,oN,oN] [(7,.ra 4 0)] [(4,.box [sI a6.fty,sI a6.fneeds,.sl (List.map K06 a6.fkids),I a5,.nils])] (ab (Kl5 _ _ a7) K6x tv) ?_
   refine sN ?_
   refine K7f hc 5 [(7,.ra 4 0),(163,.bool (a5 != 0))] ?_
   refine ic h (fun a8 h => ?_) fun a8 h => ?_
   ·refine rs hc none [oN,oN,oN,oN,oN,some (.new 69),oN] [(6,.ra 69 0)] [(69,.box [.nils,.nils,.nils,I a5,.nils])] tv ?_
    refine rt ?_
    obtain rfl := os h
    exact rq [false,false,false,false,true]
   refine sk ?_
   refine K7f hc 2 [(6,.ra 4 0)] ?_
   refine rt ?_
   obtain rfl := os h
   exact rq [false,false,false,false,true]
  refine WpL.mono hL ?_
  rintro _ _ ⟨rfl,hfin⟩
  obtain rfl := os h
  exact ⟨.inl rfl,hfin⟩
 ·rintro impl_typertyp_f impl_typertyp_l0_f impl_typertyp_ih impl_typertyp_l0_ih ⟨p0,ctx1,t2,a9,b1,b2,b3⟩ r h
  intro c hc
  refine WpL.step ?_
  refine K7f hc 1 [(1,sL ctx1),(3,.ra 1 0),(5,.ra 2 0),(7,.ra 4 0),(8,.rs 24),(9,.rs 25),(22,.sl (List.map K0h t2.fKids)),(23,I (t2.fKids.length : Int)),(24,I b3),(25,.bool (decide (b3 < (t2.fKids.length : Int))))] ?_
  refine sN ?_
  refine ic h (fun b4 h => ?_) fun b4 h => ?_
  ·refine sk ?_
   refine sN ?_
   refine bk 1 ?_
   obtain ⟨b5,b6,h⟩ := Qdd h
   refine rs hc none [oN,some (.el (K1w b5)),oN,some (.new 46),oN,oN] [(1,sL ctx1),(3,.ra 1 0),(5,.ra 2 0),(7,.ra 4 0),(8,.rs 24),(9,.rs 25),(10,I b3),(11,.ra 46 0),(22,.sl (List.map K0h t2.fKids)),(23,I (t2.fKids.length : Int)),(24,I b3)] [(1,K21 p0),(2,K1v t2),(3,.arr (List.map I (List.replicate (Int.toNat (ctx1.length : Int)) 0))),(4,.box [.nils,.rs 3,.rs 23,I 0,.nils]),(23,.arr (List.map K06 a9)),(24,.arr (List.map K11 b1)),(25,.arr (List.map K11 b2)),(46,K1v b5)] (ai (Qdh b6 (K0o b5)) tv) ?_
   refine K7f hc 1 [(1,sL ctx1),(3,.ra 1 0),(5,.ra 2 0),(7,.ra 4 0),(8,.rs 24),(9,.rs 25),(10,I b3),(11,.ra 46 0),(12,.nils),(22,.sl (List.map K0h t2.fKids)),(23,I (t2.fKids.length : Int)),(24,I b3)] ?_
   refine sN ?_
   refine sN ?_
   obtain ⟨b7,b8,h⟩ := Qdd h
   refine Wp.into (x := .normal) (mkS [(1,sL ctx1),(3,.ra 1 0),(5,.ra 2 0),(7,.ra 4 0),(8,.rs 24),(9,.rs 25),(10,I b3),(11,.ra 46 0),(12,.nils),(22,.sl (List.map K0h t2.fKids)),(23,I (t2.fKids.length : Int)),(24,I b3),(35,.bool b7)] [(1,K21 p0),(2,K1v t2),(3,.arr (List.map I (List.replicate (Int.toNat (ctx1.length : Int)) 0))),(4,.box [.nils,.rs 3,.rs 23,I 0,.nils]),(23,.arr (List.map K06 a9)),(24,.arr (List.map K11 b1)),(25,.arr (List.map K11 b2)),(46,K1v b5)]) ?_ ?_
   ·replace h := b8
    rcases is h with ⟨b9,h⟩ | ⟨b9,h⟩
    ·refine rgs hc none [oN,oN,oN,o_,o_,o_,oT] [(1,sL ctx1),(3,.ra 1 0),(5,.ra 2 0),(7,.ra 4 0),(8,.rs 24),(9,.rs 25),(10,I b3),(11,.ra 46 0),(12,.nils),(22,.sl (List.map K0h t2.fKids)),(23,I (t2.fKids.length : Int)),(24,I b3),(35,.bool true)] (ar 3 (neF b9) (ai b9 tv)) ?_
     obtain rfl := os h
     exact Qcz.mk
    refine rgs hc none [oN,oN,oN,oN,oN,oN,oF] [(1,sL ctx1),(3,.ra 1 0),(5,.ra 2 0),(7,.ra 4 0),(8,.rs 24),(9,.rs 25),(10,I b3),(11,.ra 46 0),(12,.nils),(22,.sl (List.map K0h t2.fKids)),(23,I (t2.fKids.length : Int)),(24,I b3),(35,.bool (t2.fOp == 9))] (ar 4 b9 tv) ?_
    obtain rfl := os h
    exact Qcz.mk
   clear b8
   obtain ⟨c0,c1,h⟩ := Qdd h
   refine Wp.into (x := .normal) (mkS [(1,sL ctx1),(3,.ra 1 0),(5,.ra 2 0),(7,.ra 4 0),(8,.rs 24),(9,.rs 25),(10,I b3),(11,.ra 46 0),(12,.rs 47),(22,.sl (List.map K0h t2.fKids)),(23,I (t2.fKids.length : Int)),(24,I b3)] [(1,K21 p0),(2,K1v t2),(3,.arr (List.map I (List.replicate (Int.toNat (ctx1.length : Int)) 0))),(4,.box [.nils,.rs 3,.rs 23,I 0,.nils]),(23,.arr (List.map K06 a9)),(24,.arr (List.map K11 b1)),(25,.arr (List.map K11 b2)),(46,K1v b5),(47,.arr (List.map K11 c0))]) ?_ ?_
   ·replace h := c1
    refine ic h (fun c2 h => ?_) fun c2 h => ?_
    ·refine K7f hc 1 [(1,sL ctx1),(3,.ra 1 0),(5,.ra 2 0),(7,.ra 4 0),(8,.rs 24),(9,.rs 25),(10,I b3),(11,.ra 46 0),(13,.nils),(22,.sl (List.map K0h t2.fKids)),(23,I (t2.fKids.length : Int)),(24,I b3)] ?_
     refine sN ?_
     refine K7f hc 2 [(1,sL ctx1),(3,.ra 1 0),(5,.ra 2 0),(7,.ra 4 0),(8,.rs 24),(9,.rs 25),(10,I b3),(11,.ra 46 0),(13,.nils),(22,.sl (List.map K0h t2.fKids)),(23,I (t2.fKids.length : Int)),(24,I b3),(37,.bool (decide (b3 > 0)))] ?_
     obtain ⟨c3,c4,h⟩ := Qdd h
     refine Wp.into (x := .normal) (mkS [(1,sL ctx1),(3,.ra 1 0),(5,.ra 2 0),(7,.ra 4 0),(8,.rs 24),(9,.rs 25),(10,I b3),(11,.ra 46 0),(13,sI c3),(22,.sl (List.map K0h t2.fKids)),(23,I (t2.fKids.length : Int)),(24,I b3)] [(1,K21 p0),(2,K1v t2),(3,.arr (List.map I (List.replicate (Int.toNat (ctx1.length : Int)) 0))),(4,.box [.nils,.rs 3,.rs 23,I 0,.nils]),(23,.arr (List.map K06 a9)),(24,.arr (List.map K11 b1)),(25,.arr (List.map K11 b2)),(46,K1v b5)]) ?_ ?_
     ·replace h := c4
      refine ic h (fun c5 h => ?_) fun c5 h => ?_
      ·obtain ⟨c6,c7,h⟩ := Qdd h
       refine rgs hc none [oN,oN,oN,oN,oN,some (.el (.ptr [sI c6.fty,sI c6.fneeds,.sl (List.map K06 c6.fkids),I c6.ffault,sI c6.fpath] 0)),oN,oN,oN,oN] [(1,sL ctx1),(3,.ra 1 0),(5,.ra 2 0),(7,.ra 4 0),(8,.rs 24),(9,.rs 25),(10,I b3),(11,.ra 46 0),(13,sI c6.fty),(22,.sl (List.map K0h t2.fKids)),(23,I (t2.fKids.length : Int)),(24,I b3)] (ab (Qdi (enc := K06) c7) (Qdh (enc := K06) (x := .ptr [sI c6.fty,sI c6.fneeds,.sl (List.map K06 c6.fkids),I c6.ffault,sI c6.fpath] 0) c7 (K09 c6)).2 tv) ?_
       obtain rfl := os h
       exact Qcz.mk
      refine sk ?_
      obtain rfl := os h
      exact Qcz.view (fun a w hv => SRx.renL [] (SRx.nilSL 13 hv (by kernel_rfl)) (by kernel_rfl) (by kernel_rfl) (by kernel_rfl))
     clear c4
     obtain ⟨c8,c9,h⟩ := Qdd h
     refine rg hc none [oN,oN,oN,some (.call (.osl (List.map K11 c8)) [] 47),oN] [(1,sL ctx1),(3,.ra 1 0),(5,.ra 2 0),(7,.ra 4 0),(8,.rs 24),(9,.rs 25),(10,I b3),(11,.ra 46 0),(12,.rs 47),(22,.sl (List.map K0h t2.fKids)),(23,I (t2.fKids.length : Int)),(24,I b3)] [(1,K21 p0),(2,K1v t2),(3,.arr (List.map I (List.replicate (Int.toNat (ctx1.length : Int)) 0))),(4,.box [.nils,.rs 3,.rs 23,I 0,.nils]),(23,.arr (List.map K06 a9)),(24,.arr (List.map K11 b1)),(25,.arr (List.map K11 b2)),(46,K1v b5),(47,.arr (List.map K11 c8))] (cq (Ki2 _ _ c9) K61 tv) ?_
     obtain rfl := os h
     exact Qcz.mk
    refine sk ?_
    obtain rfl := os h
    exact Qcz.view (fun a w hv => SRx.renL [(47,48)] (SRx.nilTL 12 48 hv (by kernel_rfl) (by kernel_rfl)) (by kernel_rfl) (by kernel_rfl) (by kernel_rfl))
   clear c1
   refine sN ?_
   refine vz 47 (K15 c0) [(1,sL ctx1),(3,.ra 1 0),(5,.ra 2 0),(7,.ra 4 0),(8,.rs 24),(9,.rs 25),(10,I b3),(11,.ra 46 0),(12,sL c0),(22,.sl (List.map K0h t2.fKids)),(23,I (t2.fKids.length : Int)),(24,I b3)] [(1,K21 p0),(2,K1v t2),(3,.arr (List.map I (List.replicate (Int.toNat (ctx1.length : Int)) 0))),(4,.box [.nils,.rs 3,.rs 23,I 0,.nils]),(23,.arr (List.map K06 a9)),(24,.arr (List.map K11 b1)),(25,.arr (List.map K11 b2)),(46,K1v b5)] ?_
   obtain ⟨d0,d1,d2,d3,h⟩ := bq2 h
   refine rg hc (rx [[0],[0],[0],[0,1,2],[0,1,2,3],[0],[6],[7]]) [oN,oN,oN,some (.mk 50 false),some (.call (sL d0) [.tup []] 1),oN,some (.call (.optr [sI d2.fty,sI d2.fneeds,.sl (List.map K06 d2.fkids),I d2.ffault,oI d2.fpath]) [.tup []] 51),oN] [(1,sL ctx1),(3,.ra 1 0),(5,.ra 2 0),(7,.ra 4 0),(8,.rs 24),(9,.rs 25),(10,I b3),(12,sL c0),(14,.ra 51 0),(22,.sl (List.map K0h t2.fKids)),(23,I (t2.fKids.length : Int)),(24,I b3)] [(1,K21 p0),(2,K1v t2),(3,.arr (List.map I (List.replicate (Int.toNat (ctx1.length : Int)) 0))),(4,.box [.nils,.rs 3,.rs 23,I 0,.nils]),(23,.arr (List.map K06 a9)),(24,.arr (List.map K11 b1)),(25,.arr (List.map K11 b2)),(51,.box [sI d2.fty,sI d2.fneeds,.sl (List.map K06 d2.fkids),I d2.ffault,.rs 52]),(52,rI d2.fpath)] (ad (Q71.args (A1 := [.sl (Q02 (List.map K1o [c0,ctx1]))]) (A2 := [.sl (List.map K1o [c0,ctx1])]) (by simp only [List.map_nil,K1s]) (Kig _ _ d1)) K64 (impl_typertyp_ih _ _ d3) K65 tv) ?_
   refine sN ?_
   refine K7f hc 5 [(1,sL ctx1),(3,.ra 1 0),(5,.ra 2 0),(7,.ra 4 0),(8,.rs 24),(9,.rs 25),(10,I b3),(12,sL c0),(14,.ra 51 0),(22,.sl (List.map K0h t2.fKids)),(23,I (t2.fKids.length : Int)),(24,I b3),(62,.bool (d2.ffault != 0))] ?_
   refine ic h (fun d4 h => ?_) fun d4 h => ?_
   ·obtain ⟨_,d5,h⟩ := Qdd h
    refine rs hc (rx [[0],[1],[2],[3],[0],[0,4],[0],[0,6],[0,6,7],[0,6,7,8],[0,4,5,6,7,8,9],[11],[12],[13]]) [oN,oN,oN,oN,oN,some (.mk 53 true),oN,oN,oN,oN,some (.eqv (.mk 54 true) ⟨[(73,.rs 54)],[(54,some (rI ([b3] ++ d2.fpath))),(53,none),(52,none)],[54]⟩),oN,some (.new 55),oN] [(6,.ra 55 0)] [(54,rI ([b3] ++ d2.fpath)),(55,.box [.nils,.nils,.nils,I d2.ffault,.rs 54])] (ab (congrArg (fun z => (⟨[(73,.rs 54)],[(54,some (.arr z)),(53,none),(52,none)],[54]⟩ : Wr)) ((List.map_append).symm : (List.map I [b3]) ++ (List.map I d2.fpath) = List.map I ([b3] ++ d2.fpath))) (Qdr (enc1 := I) (enc2 := I) (e1 := [b3]) (e2 := d2.fpath) (sz := 1) Qe0 Qe0 d5) tv) ?_
    refine rt ?_
    obtain rfl := os h
    exact re [false,false,false,false,true]
   refine sk ?_
   refine sN ?_
   obtain ⟨d6,d7,h⟩ := Qdd h
   refine rss hc (rx [[0],[0],[0],[0],[0,3],[0,3,4],[0,3,4,5],[7],[8]]) [oN,oN,oN,oN,oN,oN,oN,oc (I d6),oN] [(1,sL ctx1),(3,.ra 1 0),(5,.ra 2 0),(7,.ra 4 0),(8,.rs 24),(9,.rs 25),(10,I b3),(12,sL c0),(14,.ra 51 0),(15,I d6),(22,.sl (List.map K0h t2.fKids)),(23,I (t2.fKids.length : Int)),(24,I b3)] (cq (Kik _ _ d7) K66 tv) ?_
   refine K7f hc 2 [(1,sL ctx1),(3,.ra 1 0),(5,.ra 2 0),(7,.ra 4 0),(8,.rs 24),(9,.rs 25),(10,I b3),(12,sL c0),(14,.ra 51 0),(15,I d6),(22,.sl (List.map K0h t2.fKids)),(23,I (t2.fKids.length : Int)),(24,I b3),(85,.bool (d6 != 0))] ?_
   refine ic h (fun d8 h => ?_) fun d8 h => ?_
   ·refine rs hc none [oN,oN,some (.new 56),oN] [(6,.ra 56 0)] [(56,.box [.nils,.nils,.nils,I d6,.nils])] tv ?_
    refine rt ?_
    obtain rfl := os h
    exact re [false,false,false,false,true]
   refine sk ?_
   refine sN ?_
   refine sN ?_
   obtain ⟨d9,e0,h⟩ := Qdd h
   refine Wp.into (x := .normal) (mkS [(1,sL ctx1),(3,.ra 1 0),(5,.ra 2 0),(7,.ra 4 0),(8,.rs 24),(9,.rs 25),(12,sL c0),(14,.ra 51 0),(22,.sl (List.map K0h t2.fKids)),(23,I (t2.fKids.length : Int)),(24,I b3),(115,.bool d9)] [(1,K21 p0),(2,K1v t2),(3,.arr (List.map I (List.replicate (Int.toNat (ctx1.length : Int)) 0))),(4,.box [.nils,.rs 3,.rs 23,I 0,.nils]),(23,.arr (List.map K06 a9)),(24,.arr (List.map K11 b1)),(25,.arr (List.map K11 b2)),(51,.box [sI d2.fty,sI d2.fneeds,.sl (List.map K06 d2.fkids),I d2.ffault,.rs 52]),(52,rI d2.fpath)]) ?_ ?_
   ·replace h := e0
    rcases is h with ⟨e3,h⟩ | ⟨e3,h⟩
    ·rcases is h with ⟨e4,h⟩ | ⟨e4,h⟩
     ·obtain ⟨e5,e6,e7,e8,e9,f0,f1,f2,h⟩ := bq4 h
      refine rgs hc Kl7 [oN,oN,oN,oN,oN,oN,oT,oN,oN,oN,oN,oN,oN,oN,oN,oN,oN,some (.el (.ptr [sI e5.fty,sI e5.fneeds,.sl (List.map K06 e5.fkids),I e5.ffault,sI e5.fpath] 0)),oN,oN,oN,some (.call (.osl (List.map K11 e7)) [] 57),oN,some (.el (sI e9)),oc (.bool f1),oN,oT] [(1,sL ctx1),(3,.ra 1 0),(5,.ra 2 0),(7,.ra 4 0),(8,.rs 24),(9,.rs 25),(12,sL c0),(14,.ra 51 0),(22,.sl (List.map K0h t2.fKids)),(23,I (t2.fKids.length : Int)),(24,I b3),(115,.bool (!f1))] (ar 3 e3 (ar 9 e4 (ac (Qdi (enc := K06) e6) e4 (Qdh (enc := K06) (x := .ptr [sI e5.fty,sI e5.fneeds,.sl (List.map K06 e5.fkids),I e5.ffault,sI e5.fpath] 0) e6 (K09 e5)).2 (ar 4 e4 (cq (Khz _ _ e8) K60 (ad e4 (Qdi (enc := K11) f0) e4 (xL f0).2 (ai e4 (cq (Kir _ _ f2) K67 (ar 2 e4 tv))))))))) ?_
      obtain rfl := os h
      exact Qcz.mk
     refine rgs hc Kl7 [oN,oN,oN,oN,oN,oN,oT,oN,o_,o_,o_,o_,o_,o_,o_,o_,o_,o_,o_,o_,o_,o_,o_,o_,o_,o_,oF] [(1,sL ctx1),(3,.ra 1 0),(5,.ra 2 0),(7,.ra 4 0),(8,.rs 24),(9,.rs 25),(12,sL c0),(14,.ra 51 0),(22,.sl (List.map K0h t2.fKids)),(23,I (t2.fKids.length : Int)),(24,I b3),(115,.bool false)] (ar 3 e3 (ar 18 (neT e4) (ai e4 tv))) ?_
     obtain rfl := os h
     exact Qcz.mk
    refine rgs hc Kl7 [oN,oN,oN,oN,o_,o_,oF,oN,o_,o_,o_,o_,o_,o_,o_,o_,o_,o_,o_,o_,o_,o_,o_,o_,o_,o_,oF] [(1,sL ctx1),(3,.ra 1 0),(5,.ra 2 0),(7,.ra 4 0),(8,.rs 24),(9,.rs 25),(12,sL c0),(14,.ra 51 0),(22,.sl (List.map K0h t2.fKids)),(23,I (t2.fKids.length : Int)),(24,I b3),(115,.bool false)] (ar 2 (neT e3) (ai e3 (ar 18 (neT (rfl : false = false)) (ai (rfl : false = false) tv)))) ?_
    obtain rfl := os h
    exact Qcz.mk
   clear e0
   refine ic h (fun f3 h => ?_) fun f3 h => ?_
   ·refine rs hc none [oN,some (.new 58),oN] [(6,.ra 58 0)] [(58,.box [.nils,.nils,.nils,I 3,.nils])] tv ?_
    refine rt ?_
    obtain rfl := os h
    exact re [false,false,false,false,true]
   refine sk ?_
   refine sN ?_
   refine vz 52 (Qe5 d2.fpath) [(1,sL ctx1),(3,.ra 1 0),(5,.ra 2 0),(7,.ra 4 0),(8,.rs 24),(9,.rs 25),(12,sL c0),(14,.ra 51 0),(22,.sl (List.map K0h t2.fKids)),(23,I (t2.fKids.length : Int)),(24,I b3),(115,.bool d9)] [(1,K21 p0),(2,K1v t2),(3,.arr (List.map I (List.replicate (Int.toNat (ctx1.length : Int)) 0))),(4,.box [.nils,.rs 3,.rs 23,I 0,.nils]),(23,.arr (List.map K06 a9)),(24,.arr (List.map K11 b1)),(25,.arr (List.map K11 b2)),(51,K1z d2)] ?_
   refine vb 51 [sI d2.fty,sI d2.fneeds,.sl (List.map K06 d2.fkids),I d2.ffault,sI d2.fpath] [(1,sL ctx1),(3,.ra 1 0),(5,.ra 2 0),(7,.ra 4 0),(8,.rs 24),(9,.rs 25),(12,sL c0),(14,.ptr [sI d2.fty,sI d2.fneeds,.sl (List.map K06 d2.fkids),I d2.ffault,sI d2.fpath] 0),(22,.sl (List.map K0h t2.fKids)),(23,I (t2.fKids.length : Int)),(24,I b3),(115,.bool d9)] [(1,K21 p0),(2,K1v t2),(3,.arr (List.map I (List.replicate (Int.toNat (ctx1.length : Int)) 0))),(4,.box [.nils,.rs 3,.rs 23,I 0,.nils]),(23,.arr (List.map K06 a9)),(24,.arr (List.map K11 b1)),(25,.arr (List.map K11 b2))] ?_
   obtain ⟨_,f4,h⟩ := Qdd h
   refine rg hc none [oN,oN,oN,oN,oN,oN,some (.eqv (.mk 60 false) ⟨[(124,.rs 60)],[(60,some (.arr (List.map K06 [d2])))],[60]⟩),some (.eqv (.mk 61 true) ⟨[(125,.rs 61)],[(61,some (.arr (List.map K06 (a9 ++ [d2])))),(23,none),(60,none)],[61]⟩),oN,oN,oN] [(1,sL ctx1),(3,.ra 1 0),(5,.ra 2 0),(7,.ra 4 0),(8,.rs 24),(9,.rs 25),(12,sL c0),(14,.ptr [sI d2.fty,sI d2.fneeds,.sl (List.map K06 d2.fkids),I d2.ffault,sI d2.fpath] 0),(22,.sl (List.map K0h t2.fKids)),(23,I (t2.fKids.length : Int)),(24,I b3)] [(1,K21 p0),(2,K1v t2),(3,.arr (List.map I (List.replicate (Int.toNat (ctx1.length : Int)) 0))),(4,.box [.nils,.rs 3,.rs 61,I 0,.nils]),(24,.arr (List.map K11 b1)),(25,.arr (List.map K11 b2)),(61,.arr (List.map K06 (a9 ++ [d2])))] (ac (congrArg (fun z => (⟨[(124,.rs 60)],[(60,some (.arr z))],[60]⟩ : Wr)) ((Qek (K09 d2) Qej) : [AV.ptr [sI d2.fty,sI d2.fneeds,.sl (List.map K06 d2.fkids),I d2.ffault,sI d2.fpath] 0] = List.map K06 [d2])) (congrArg (fun z => (⟨[(125,.rs 61)],[(61,some (.arr z)),(23,none),(60,none)],[61]⟩ : Wr)) ((List.map_append).symm : (List.map K06 a9) ++ (List.map K06 [d2]) = List.map K06 (a9 ++ [d2]))) (Qdr (enc1 := K06) (enc2 := K06) (e1 := a9) (e2 := [d2]) (sz := 1) K0d K0d f4) tv) ?_
   obtain ⟨f5,f6,_,f7,f8,f9,_,g0,h⟩ := bq4 h
   refine rg hc (rx [[0],[0],[0,1],[0,1,2],[0,1,2,3],[0],[0,5],[0,1,2,3,4,5,6],[0,1,2,3,4,5,6,7],[9],[0],[0],[0,11],[0,11,12],[0,11,12,13],[0],[0,15],[0,11,12,13,14,15,16],[0,11,12,13,14,15,16,17],[19],[20],[21]]) [oN,oN,oN,oN,oN,oN,some (.eqv (.no) ⟨[(134,I (c0.length : Int))],[],[]⟩),some (.eqv (.no) ⟨[(135,sI f5)],[],[]⟩),some (.mk 62 false),some (.eqv (.mk 63 true) ⟨[(137,.rs 63)],[(63,some (.arr (List.map K11 (b2 ++ [f5])))),(25,none),(62,none)],[63]⟩),oN,oN,oN,oN,oN,oN,some (.eqv (.no) ⟨[(144,I (c0.length : Int))],[],[]⟩),some (.eqv (.no) ⟨[(145,sI f8)],[],[]⟩),some (.mk 64 false),some (.eqv (.mk 65 true) ⟨[(147,.rs 65)],[(65,some (.arr (List.map K11 (b1 ++ [f8])))),(24,none),(64,none)],[65]⟩),oN,oN] [(1,sL ctx1),(3,.ra 1 0),(5,.ra 2 0),(7,.ra 4 0),(8,.rs 65),(9,.rs 63),(22,.sl (List.map K0h t2.fKids)),(23,I (t2.fKids.length : Int)),(24,I b3)] [(1,K21 p0),(2,K1v t2),(3,.arr (List.map I (List.replicate (Int.toNat (ctx1.length : Int)) 0))),(4,.box [.nils,.rs 3,.rs 61,I 0,.nils]),(61,.arr (List.map K06 (a9 ++ [d2]))),(63,.arr (List.map K11 (b2 ++ [f5]))),(65,.arr (List.map K11 (b1 ++ [f8])))] (ad (Qdj (d := 134) K11 c0) (Qdm (d := 135) I f6) (Qdl (enc := I) (sz := 1) Qdw f6) (congrArg (fun z => (⟨[(137,.rs 63)],[(63,some (.arr z)),(25,none),(62,none)],[63]⟩ : Wr)) ((List.map_append).symm : (List.map K11 b2) ++ (List.map K11 [f5]) = List.map K11 (b2 ++ [f5]))) (ad (Qdr (enc1 := K11) (enc2 := K11) (e1 := b2) (e2 := [f5]) (sz := 1) K14 K14 f7) (Qdj (d := 144) K11 c0) (Qdm (d := 145) I f9) (Qdl (enc := I) (sz := 1) Qdw f9) (ab (congrArg (fun z => (⟨[(147,.rs 65)],[(65,some (.arr z)),(24,none),(64,none)],[65]⟩ : Wr)) ((List.map_append).symm : (List.map K11 b1) ++ (List.map K11 [f8]) = List.map K11 (b1 ++ [f8]))) (Qdr (enc1 := K11) (enc2 := K11) (e1 := b1) (e2 := [f8]) (sz := 1) K14 K14 g0) tv))) ?_
   refine K7e hc 2 [(1,sL ctx1),(3,.ra 1 0),(5,.ra 2 0),(7,.ra 4 0),(8,.rs 65),(9,.rs 63),(22,.sl (List.map K0h t2.fKids)),(23,I (t2.fKids.length : Int)),(24,I (wr (b3 + 1)))] ?_
   refine Qcv ?_
   exact WpL.view (fun a w hv => SRx.renL [(23,61),(24,65),(25,63)] hv (by kernel_rfl) (by kernel_rfl) (by kernel_rfl)) (impl_typertyp_l0_ih _ _ h c hc)
  refine xt 0 ?_
  refine Qcp ?_
  refine Qcw ?_
  obtain rfl := os h
  exact iv []
theorem Kle : ∀ p r,Kl9 p = some r → Klb p r := Kld.1
theorem Klf : ∀ p r,Kla p = some r → Klc p r := Kld.2
def Klg (p : K00 × LL × K01) : Option (Option K03) :=
 match p with
 | (s0,ctx1,t2) =>
  ((
  (Kga s0) >>= fun a0 =>
  if a0 = true then
  (Kh6 (s0,ctx1)) >>= fun a1 =>
  if a1 = true then
  (Khq (s0,t2,(ctx1.length : Int))) >>= fun a2 =>
  some ((!a2))
  else
  some (true)
  else
  some (true)
  ) : Option (Bool)) >>= fun a3 =>
  if a3 = true then
  some none
  else
  (Kl9 ((K05.mk s0),ctx1,t2)) >>= fun a4 =>
  some (some a4)
def Klh (p : K00 × LL × K01) (r : Option K03) : Prop :=
 match p with
 | (s0,ctx1,t2) => Q71 Tryz.prog 47 [K1u s0,sL ctx1,K1w t2] (K0b r) []
theorem Kli : ∀ p r,Klg p = some r → Klh p r := by
 rintro ⟨s0,ctx1,t2⟩ r h
 unfold Klg at h
 refine b0 Tryz.f47 B47 29 [(0,K1u s0),(1,sL ctx1),(2,K1w t2)] fun c hc => ?_
 refine rs hc none [some (.new 1),some (.new 2),oN] [(1,sL ctx1),(3,.ra 1 0),(5,.ra 2 0)] [(1,K1t s0),(2,K1v t2)] tv ?_
 refine sN ?_
 refine sN ?_
 obtain ⟨a0,a1,h⟩ := Qdd h
 refine Wp.into (x := .normal) (mkS [(1,sL ctx1),(3,.ra 1 0),(5,.ra 2 0),(23,.bool a0)] [(1,K1t s0),(2,K1v t2)]) ?_ ?_
 ·replace h := a1
  obtain ⟨a2,a3,h⟩ := Qdd h
  rcases is h with ⟨a4,h⟩ | ⟨a4,h⟩
  ·obtain ⟨a5,a6,h⟩ := Qdd h
   rcases is h with ⟨a7,h⟩ | ⟨a7,h⟩
   ·obtain ⟨a8,a9,h⟩ := Qdd h
    refine rgs hc none [oN,oc (.bool a2),oN,oN,oN,oN,oc (.bool a5),oN,oF,oN,oN,oN,oN,some (.eqv (.no) ⟨[(20,I (ctx1.length : Int))],[],[]⟩),oc (.bool a8),oN,oF] [(1,sL ctx1),(3,.ra 1 0),(5,.ra 2 0),(23,.bool (!a8))] (cq (Kgc _ _ a3) K5b (ar 3 (nF a4) (cq (Kh8 _ _ a6) K5q (ar 2 (nF a4) (ar 4 (nF a7) (ab (Qdj (d := 20) K11 ctx1) (nF a7) (cq (Khs _ _ a9) K5z (ar 2 (nF a7) tv)))))))) ?_
    obtain rfl := os h
    exact Qcz.mk
   refine rgs hc none [oN,oc (.bool a2),oN,oN,oN,oN,oc (.bool a5),oN,oF,oN,o_,o_,o_,o_,o_,o_,oT] [(1,sL ctx1),(3,.ra 1 0),(5,.ra 2 0),(23,.bool true)] (cq (Kgc _ _ a3) K5b (ar 3 (nF a4) (cq (Kh8 _ _ a6) K5q (ar 2 (nF a4) (ar 6 (neF (nT a7)) (ai (nT a7) tv)))))) ?_
   obtain rfl := os h
   exact Qcz.mk
  refine rgs hc none [oN,oc (.bool a2),oN,oN,o_,o_,o_,o_,oT,oN,o_,o_,o_,o_,o_,o_,oT] [(1,sL ctx1),(3,.ra 1 0),(5,.ra 2 0),(23,.bool true)] (cq (Kgc _ _ a3) K5b (ar 4 (neF (nT a4)) (ai (nT a4) (ar 6 nf (ai tt tv))))) ?_
  obtain rfl := os h
  exact Qcz.mk
 clear a1
 refine ic h (fun b1 h => ?_) fun b1 h => ?_
 ·refine rs0 hc 1 [(6,.nilp)] [] ?_
  refine rt ?_
  obtain rfl := os h
  exact rq [false,false,false,false,true]
 refine sk ?_
 obtain ⟨b2,b3,h⟩ := Qdd h
 refine rs hc none [oN,oN,oN,oN,some (.call (.optr [sI b2.fty,sI b2.fneeds,.sl (List.map K06 b2.fkids),I b2.ffault,oI b2.fpath]) [.tup []] 3),oN] [(6,.ra 3 0)] [(3,.box [sI b2.fty,sI b2.fneeds,.sl (List.map K06 b2.fkids),I b2.ffault,.rs 4]),(4,rI b2.fpath)] (ab (Kle _ _ b3) K65 tv) ?_
 refine rt ?_
 obtain rfl := os h
 exact rq [false,false,false,false,true]
def Klj (p : K00 × LL × K01) : Option (Int × (List Int)) :=
 match p with
 | (s0,ctx1,t2) =>
  (Klg (s0,ctx1,t2)) >>= fun a0 =>
  match a0 with
  | none =>
   some (1,[])
  | some a1 =>
   some (a1.ffault,a1.fpath)
def Klk (p : K00 × LL × K01) (r : Int × (List Int)) : Prop :=
 match p with
 | (s0,ctx1,t2) => Q71 Tryz.prog 28 [K1u s0,sL ctx1,K1w t2] (.tup [I r.1,oI r.2]) []
theorem Kll : ∀ p r,Klj p = some r → Klk p r := by
 rintro ⟨s0,ctx1,t2⟩ r h
 unfold Klj at h
 refine b0 Tryz.f28 B28 23 [(0,K1u s0),(1,sL ctx1),(2,K1w t2)] fun c hc => ?_
 refine rs hc none [some (.new 1),some (.new 2),oN,oN] [(1,sL ctx1),(3,.ra 1 0),(5,.ra 2 0)] [(1,K1t s0),(2,K1v t2)] tv ?_
 refine sN ?_
 obtain ⟨a0,a1,h⟩ := Qdd h
 rcases a0 with _ | a2
 ·refine rg hc none [oN,oN,oN,oc (.nilp),oN] [(8,.nilp)] [] (cq (Kli _ _ a1) K6y tv) ?_
  refine sN ?_
  refine rs0 hc 2 [(8,.nilp),(14,.bool true)] [] ?_
  refine cT true (rfl : true = true) ?_
  refine rs0 hc 2 [(6,I 1),(7,.nils)] [] ?_
  refine rt ?_
  obtain rfl := os h
  exact rq [true,true]
 refine rg hc none [oN,oN,oN,some (.call (.optr [sI a2.fty,sI a2.fneeds,.sl (List.map K06 a2.fkids),I a2.ffault,oI a2.fpath]) [.tup []] 3),oN] [(8,.ra 3 0)] [(3,.box [sI a2.fty,sI a2.fneeds,.sl (List.map K06 a2.fkids),I a2.ffault,.rs 4]),(4,rI a2.fpath)] (ab (Kli _ _ a1) K6y tv) ?_
 refine sN ?_
 refine K7f hc 2 [(8,.ra 3 0),(14,.bool false)] ?_
 refine cF false (rfl : false = false) ?_
 refine sk ?_
 refine rs hc (rx [[0],[1],[2],[3],[0],[0,4],[0,4,5],[0,4,5,6],[4],[9]]) [oN,oN,oN,oN,oN,oN,oN,oN,oN,oN] [(6,I a2.ffault),(7,.rs 4)] [(4,rI a2.fpath)] tv ?_
 refine rt ?_
 obtain rfl := os h
 exact rq [true,true]
def Klm (c : Ctx) : (Unit) ⊕ (Bool) → Exit → Q0a → Prop
 | .inl _ => Qcz c (.exit 0) (mkS [] [])
 | .inr r => Qd8 TIx Tryz.f29 [] (.bool r)
def Kln (p : (List Int) × (List Int) × Int) : Option ((Unit) ⊕ (Bool)) :=
 match p with
 | (a0,b1,a1) =>
  if (decide (a1 < (a0.length : Int))) = true then
  (idx a0 a1) >>= fun a2 =>
  (idx b1 a1) >>= fun a3 =>
  if (a2 != a3) = true then
  some (.inr false)
  else
  Kln (a0,b1,(wr (a1 + 1)))
  else
  some (.inl ())
 partial_fixpoint
def Klo (p : (List Int) × (List Int) × Int) (fl : (Unit) ⊕ (Bool)) : Prop :=
 match p with
 | (a0,b1,a1) => ∀ c : Ctx,c.nt = 26 → WpL Tryz.prog c (cl (cl (cr (cl (cr (cr B29)))))) (Klm c fl) (mkS [(0,sI a0),(1,sI b1),(5,I a1)] [])
theorem Klp : ∀ p r,Kln p = some r → Klo p r := by
 refine Kln.partial_correctness Klo ?_
 rintro laws_eqIntS_l0_f laws_eqIntS_l0_ih ⟨a0,b1,a1⟩ r h
 intro c hc
 refine WpL.step ?_
 refine sN ?_
 refine rs hc none [oN,oN,some (.eqv (.no) ⟨[(13,I (a0.length : Int))],[],[]⟩),oN] [(0,sI a0),(1,sI b1),(5,I a1),(14,.bool (decide (a1 < (a0.length : Int))))] [] (ai (Qdj (d := 13) I a0) tv) ?_
 refine ic h (fun a2 h => ?_) fun a2 h => ?_
 ·refine sk ?_
  refine sN ?_
  refine bk 1 ?_
  obtain ⟨a3,a4,a5,a6,h⟩ := bq2 h
  refine rs hc Kl8 [oN,oN,some (.el (I a3)),oN,oN,oN,some (.el (I a5)),oN,oN] [(0,sI a0),(1,sI b1),(5,I a1),(25,.bool (a3 != a5))] [] (ab (ix a4) (ix a6) tv) ?_
  refine ic h (fun a7 h => ?_) fun a7 h => ?_
  ·refine rs0 hc 1 [(4,.bool false)] [] ?_
   refine rt ?_
   obtain rfl := os h
   exact re [true]
  refine sk ?_
  refine rg0 hc 3 [(0,sI a0),(1,sI b1),(5,I (wr (a1 + 1)))] [] ?_
  refine Qcv ?_
  exact (laws_eqIntS_l0_ih _ _ h c hc)
 refine xt 0 ?_
 refine Qcp ?_
 refine Qcw ?_
 obtain rfl := os h
 exact iv []
def Klq (p : (List Int) × (List Int)) : Option (Bool) :=
 match p with
 | (a0,b1) =>
  if ((a0.length : Int) != (b1.length : Int)) = true then
  some false
  else
  (Kln (a0,b1,0)) >>= fun fl => match fl with
  | .inl () =>
   some true
  | .inr r =>
   some r
def Klr (p : (List Int) × (List Int)) (r : Bool) : Prop :=
 match p with
 | (a0,b1) => Q71 Tryz.prog 29 [sI a0,sI b1] (.bool r) []
theorem Kls : ∀ p r,Klq p = some r → Klr p r := by
 rintro ⟨a0,b1⟩ r h
 unfold Klq at h
 refine b0 Tryz.f29 B29 26 [(0,sI a0),(1,sI b1)] fun c hc => ?_
 refine rs0 hc 1 [(0,sI a0),(1,sI b1)] [] ?_
 refine sN ?_
 refine rs hc none [oN,some (.eqv (.no) ⟨[(7,I (a0.length : Int))],[],[]⟩),oN,some (.eqv (.no) ⟨[(9,I (b1.length : Int))],[],[]⟩),oN] [(0,sI a0),(1,sI b1),(10,.bool ((a0.length : Int) != (b1.length : Int)))] [] (ab (Qdj (d := 7) I a0) (Qdj (d := 9) I b1) tv) ?_
 refine ic h (fun a1 h => ?_) fun a1 h => ?_
 ·refine rs0 hc 1 [(4,.bool false)] [] ?_
  refine rt ?_
  obtain rfl := os h
  exact rq [true]
 refine sk ?_
 refine sN ?_
 refine rs0 hc 1 [(0,sI a0),(1,sI b1),(5,I 0)] [] ?_
 refine bk 0 ?_
 obtain ⟨fl,a2,h⟩ := Qdd h
 have hL := Klp _ _ a2 c hc
 refine lp ?_
 rcases fl with ⟨⟩ | r
 ·refine WpL.into (e := (.exit 0)) (mkS [] []) hL ?_
  refine Qcr ?_
  refine rs0 hc 1 [(4,.bool true)] [] ?_
  refine rt ?_
  obtain rfl := os h
  exact rq [true]
 refine WpL.mono hL ?_
 rintro _ _ ⟨rfl,hfin⟩
 obtain rfl := os h
 exact ⟨.inl rfl,hfin⟩
def Klt (c : Ctx) : (Unit) ⊕ (Bool) → Exit → Q0a → Prop
 | .inl _ => Qcz c (.exit 0) (mkS [] [])
 | .inr r => Qd8 TIx Tryz.f41 [] (.bool r)
def Klu (p : (List Bool) × (List Bool) × Int) : Option ((Unit) ⊕ (Bool)) :=
 match p with
 | (a0,b1,a1) =>
  if (decide (a1 < (a0.length : Int))) = true then
  (idx a0 a1) >>= fun a2 =>
  (idx b1 a1) >>= fun a3 =>
  if (a2 == a3) = true then
  Klu (a0,b1,(wr (a1 + 1)))
  else
  some (.inr false)
  else
  some (.inl ())
 partial_fixpoint
def Klv (p : (List Bool) × (List Bool) × Int) (fl : (Unit) ⊕ (Bool)) : Prop :=
 match p with
 | (a0,b1,a1) => ∀ c : Ctx,c.nt = 26 → WpL Tryz.prog c (cl (cl (cr (cl (cr (cr B41)))))) (Klt c fl) (mkS [(0,sB a0),(1,sB b1),(5,I a1)] [])
theorem Klw : ∀ p r,Klu p = some r → Klv p r := by
 refine Klu.partial_correctness Klv ?_
 rintro laws_eqBoolS_l0_f laws_eqBoolS_l0_ih ⟨a0,b1,a1⟩ r h
 intro c hc
 refine WpL.step ?_
 refine sN ?_
 refine rs hc none [oN,oN,some (.eqv (.no) ⟨[(13,I (a0.length : Int))],[],[]⟩),oN] [(0,sB a0),(1,sB b1),(5,I a1),(14,.bool (decide (a1 < (a0.length : Int))))] [] (ai (Qdj (d := 13) AV.bool a0) tv) ?_
 refine ic h (fun a2 h => ?_) fun a2 h => ?_
 ·refine sk ?_
  refine sN ?_
  refine bk 1 ?_
  obtain ⟨a3,a4,a5,a6,h⟩ := bq2 h
  refine rs hc Kl8 [oN,oN,some (.el (.bool a3)),oN,oN,oN,some (.el (.bool a5)),oN,oN] [(0,sB a0),(1,sB b1),(5,I a1),(25,.bool (!(a3 == a5)))] [] (ab (Qdh (enc := AV.bool) (x := .bool a3) a4 (Qdu a3)) (Qdh (enc := AV.bool) (x := .bool a5) a6 (Qdu a5)) tv) ?_
  rcases is h with ⟨a7,h⟩ | ⟨a7,h⟩
  ·refine cF ((!(a3 == a5))) (nF a7) ?_
   refine sk ?_
   refine rg0 hc 3 [(0,sB a0),(1,sB b1),(5,I (wr (a1 + 1)))] [] ?_
   refine Qcv ?_
   exact (laws_eqBoolS_l0_ih _ _ h c hc)
  refine cT ((!(a3 == a5))) (nT a7) ?_
  refine rs0 hc 1 [(4,.bool false)] [] ?_
  refine rt ?_
  obtain rfl := os h
  exact re [true]
 refine xt 0 ?_
 refine Qcp ?_
 refine Qcw ?_
 obtain rfl := os h
 exact iv []
def Klx (p : (List Bool) × (List Bool)) : Option (Bool) :=
 match p with
 | (a0,b1) =>
  if ((a0.length : Int) != (b1.length : Int)) = true then
  some false
  else
  (Klu (a0,b1,0)) >>= fun fl => match fl with
  | .inl () =>
   some true
  | .inr r =>
   some r
def Kly (p : (List Bool) × (List Bool)) (r : Bool) : Prop :=
 match p with
 | (a0,b1) => Q71 Tryz.prog 41 [sB a0,sB b1] (.bool r) []
theorem Klz : ∀ p r,Klx p = some r → Kly p r := by
 rintro ⟨a0,b1⟩ r h
 unfold Klx at h
 refine b0 Tryz.f41 B41 26 [(0,sB a0),(1,sB b1)] fun c hc => ?_
 refine rs0 hc 1 [(0,sB a0),(1,sB b1)] [] ?_
 refine sN ?_
 refine rs hc none [oN,some (.eqv (.no) ⟨[(7,I (a0.length : Int))],[],[]⟩),oN,some (.eqv (.no) ⟨[(9,I (b1.length : Int))],[],[]⟩),oN] [(0,sB a0),(1,sB b1),(10,.bool ((a0.length : Int) != (b1.length : Int)))] [] (ab (Qdj (d := 7) AV.bool a0) (Qdj (d := 9) AV.bool b1) tv) ?_
 refine ic h (fun a1 h => ?_) fun a1 h => ?_
 ·refine rs0 hc 1 [(4,.bool false)] [] ?_
  refine rt ?_
  obtain rfl := os h
  exact rq [true]
 refine sk ?_
 refine sN ?_
 refine rs0 hc 1 [(0,sB a0),(1,sB b1),(5,I 0)] [] ?_
 refine bk 0 ?_
 obtain ⟨fl,a2,h⟩ := Qdd h
 have hL := Klw _ _ a2 c hc
 refine lp ?_
 rcases fl with ⟨⟩ | r
 ·refine WpL.into (e := (.exit 0)) (mkS [] []) hL ?_
  refine Qcr ?_
  refine rs0 hc 1 [(4,.bool true)] [] ?_
  refine rt ?_
  obtain rfl := os h
  exact rq [true]
 refine WpL.mono hL ?_
 rintro _ _ ⟨rfl,hfin⟩
 obtain rfl := os h
 exact ⟨.inl rfl,hfin⟩
def Km0 (p : K00 × K00) : Option (Bool) :=
 match p with
 | (a0,b1) =>
  if (a0.fSize != b1.fSize) = true then
  some false
  else
  (Klq (a0.fPlus,b1.fPlus)) >>= fun a1 =>
  if a1 = true then
  (Klq (a0.fTimes,b1.fTimes)) >>= fun a2 =>
  if a2 = true then
  (Klx (a0.fBelow,b1.fBelow)) >>= fun a3 =>
  if a3 = true then
  some true
  else
  some false
  else
  some false
  else
  some false
def Km1 (p : K00 × K00) (r : Bool) : Prop :=
 match p with
 | (a0,b1) => Q71 Tryz.prog 12 [K1u a0,K1u b1] (.bool r) []
theorem Km2 : ∀ p r,Km0 p = some r → Km1 p r := by
 rintro ⟨a0,b1⟩ r h
 unfold Km0 at h
 refine b0 Tryz.f12 B12 28 [(0,K1u a0),(1,K1u b1)] fun c hc => ?_
 refine rs hc none [some (.new 1),some (.new 2),oN] [(2,.ra 1 0),(3,.ra 2 0)] [(1,K1t a0),(2,K1t b1)] tv ?_
 refine sN ?_
 refine K7f hc 5 [(2,.ra 1 0),(3,.ra 2 0),(9,.bool (a0.fSize != b1.fSize))] ?_
 refine ic h (fun a1 h => ?_) fun a1 h => ?_
 ·refine rs0 hc 1 [(4,.bool false)] [] ?_
  refine rt ?_
  obtain rfl := os h
  exact rq [true]
 refine sk ?_
 refine sN ?_
 obtain ⟨a2,a3,h⟩ := Qdd h
 refine rss hc none [oN,oN,oN,oN,oc (.bool a2),oN] [(2,.ra 1 0),(3,.ra 2 0),(15,.bool (!a2))] (cq (Kls _ _ a3) K70 tv) ?_
 rcases is h with ⟨a4,h⟩ | ⟨a4,h⟩
 ·refine cF (!a2) (nF a4) ?_
  refine sk ?_
  refine sN ?_
  obtain ⟨a5,a6,h⟩ := Qdd h
  refine rss hc none [oN,oN,oN,oN,oc (.bool a5),oN] [(2,.ra 1 0),(3,.ra 2 0),(21,.bool (!a5))] (cq (Kls _ _ a6) K70 tv) ?_
  rcases is h with ⟨a7,h⟩ | ⟨a7,h⟩
  ·refine cF (!a5) (nF a7) ?_
   refine sk ?_
   refine sN ?_
   obtain ⟨a8,a9,h⟩ := Qdd h
   refine rs hc none [oN,oN,oN,oN,oc (.bool a8),oN] [(27,.bool (!a8))] [] (cq (Klz _ _ a9) K71 tv) ?_
   rcases is h with ⟨b2,h⟩ | ⟨b2,h⟩
   ·refine cF (!a8) (nF b2) ?_
    refine sk ?_
    refine rs0 hc 1 [(4,.bool true)] [] ?_
    refine rt ?_
    obtain rfl := os h
    exact rq [true]
   refine cT (!a8) (nT b2) ?_
   refine rs0 hc 1 [(4,.bool false)] [] ?_
   refine rt ?_
   obtain rfl := os h
   exact rq [true]
  refine cT (!a5) (nT a7) ?_
  refine rs0 hc 1 [(4,.bool false)] [] ?_
  refine rt ?_
  obtain rfl := os h
  exact rq [true]
 refine cT (!a2) (nT a4) ?_
 refine rs0 hc 1 [(4,.bool false)] [] ?_
 refine rt ?_
 obtain rfl := os h
 exact rq [true]
def Km3 (c : Ctx) : (Unit) ⊕ (Bool) → Exit → Q0a → Prop
 | .inl _ => Qcz c (.exit 0) (mkS [] [])
 | .inr r => Qd8 TIx Tryz.f20 [] (.bool r)
def Km4 (p : LL × LL × Int) : Option ((Unit) ⊕ (Bool)) :=
 match p with
 | (a0,b1,a1) =>
  if (decide (a1 < (a0.length : Int))) = true then
  (idx a0 a1) >>= fun a2 =>
  (idx b1 a1) >>= fun a3 =>
  (Klq (a2,a3)) >>= fun a4 =>
  if a4 = true then
  Km4 (a0,b1,(wr (a1 + 1)))
  else
  some (.inr false)
  else
  some (.inl ())
 partial_fixpoint
def Km5 (p : LL × LL × Int) (fl : (Unit) ⊕ (Bool)) : Prop :=
 match p with
 | (a0,b1,a1) => ∀ c : Ctx,c.nt = 27 → WpL Tryz.prog c (cl (cl (cr (cl (cr (cr B20)))))) (Km3 c fl) (mkS [(0,sL a0),(1,sL b1),(5,I a1)] [])
theorem Km6 : ∀ p r,Km4 p = some r → Km5 p r := by
 refine Km4.partial_correctness Km5 ?_
 rintro laws_eqIntSS_l0_f laws_eqIntSS_l0_ih ⟨a0,b1,a1⟩ r h
 intro c hc
 refine WpL.step ?_
 refine sN ?_
 refine rs hc none [oN,oN,some (.eqv (.no) ⟨[(13,I (a0.length : Int))],[],[]⟩),oN] [(0,sL a0),(1,sL b1),(5,I a1),(14,.bool (decide (a1 < (a0.length : Int))))] [] (ai (Qdj (d := 13) K11 a0) tv) ?_
 refine ic h (fun a2 h => ?_) fun a2 h => ?_
 ·refine sk ?_
  refine sN ?_
  refine bk 1 ?_
  obtain ⟨a3,a4,a5,a6,a7,a8,h⟩ := bq3 h
  refine rs hc (rx [[0],[0],[2],[3],[0],[0],[0,4,5],[0,4,5,6],[8],[9]]) [oN,oN,some (.el (sI a3)),oN,oN,oN,some (.el (sI a5)),oN,oc (.bool a7),oN] [(0,sL a0),(1,sL b1),(5,I a1),(26,.bool (!a7))] [] (ab (xL a4) (xL a6) (cq (Kls _ _ a8) K70 tv)) ?_
  rcases is h with ⟨a9,h⟩ | ⟨a9,h⟩
  ·refine cF (!a7) (nF a9) ?_
   refine sk ?_
   refine rg0 hc 3 [(0,sL a0),(1,sL b1),(5,I (wr (a1 + 1)))] [] ?_
   refine Qcv ?_
   exact (laws_eqIntSS_l0_ih _ _ h c hc)
  refine cT (!a7) (nT a9) ?_
  refine rs0 hc 1 [(4,.bool false)] [] ?_
  refine rt ?_
  obtain rfl := os h
  exact re [true]
 refine xt 0 ?_
 refine Qcp ?_
 refine Qcw ?_
 obtain rfl := os h
 exact iv []
def Km7 (p : LL × LL) : Option (Bool) :=
 match p with
 | (a0,b1) =>
  if ((a0.length : Int) != (b1.length : Int)) = true then
  some false
  else
  (Km4 (a0,b1,0)) >>= fun fl => match fl with
  | .inl () =>
   some true
  | .inr r =>
   some r
def Km8 (p : LL × LL) (r : Bool) : Prop :=
 match p with
 | (a0,b1) => Q71 Tryz.prog 20 [sL a0,sL b1] (.bool r) []
theorem Km9 : ∀ p r,Km7 p = some r → Km8 p r := by
 rintro ⟨a0,b1⟩ r h
 unfold Km7 at h
 refine b0 Tryz.f20 B20 27 [(0,sL a0),(1,sL b1)] fun c hc => ?_
 refine rs0 hc 1 [(0,sL a0),(1,sL b1)] [] ?_
 refine sN ?_
 refine rs hc none [oN,some (.eqv (.no) ⟨[(7,I (a0.length : Int))],[],[]⟩),oN,some (.eqv (.no) ⟨[(9,I (b1.length : Int))],[],[]⟩),oN] [(0,sL a0),(1,sL b1),(10,.bool ((a0.length : Int) != (b1.length : Int)))] [] (ab (Qdj (d := 7) K11 a0) (Qdj (d := 9) K11 b1) tv) ?_
 refine ic h (fun a1 h => ?_) fun a1 h => ?_
 ·refine rs0 hc 1 [(4,.bool false)] [] ?_
  refine rt ?_
  obtain rfl := os h
  exact rq [true]
 refine sk ?_
 refine sN ?_
 refine rs0 hc 1 [(0,sL a0),(1,sL b1),(5,I 0)] [] ?_
 refine bk 0 ?_
 obtain ⟨fl,a2,h⟩ := Qdd h
 have hL := Km6 _ _ a2 c hc
 refine lp ?_
 rcases fl with ⟨⟩ | r
 ·refine WpL.into (e := (.exit 0)) (mkS [] []) hL ?_
  refine Qcr ?_
  refine rs0 hc 1 [(4,.bool true)] [] ?_
  refine rt ?_
  obtain rfl := os h
  exact rq [true]
 refine WpL.mono hL ?_
 rintro _ _ ⟨rfl,hfin⟩
 obtain rfl := os h
 exact ⟨.inl rfl,hfin⟩
def Kma (c : Ctx) : (Unit) ⊕ (Bool) → Exit → Q0a → Prop
 | .inl _ => Qcz c (.exit 0) (mkS [] [])
 | .inr r => Qd8 TIx Tryz.f49 [] (.bool r)
mutual
def Kmb (p : K01 × K01) : Option (Bool) :=
 match p with
 | (a0,b1) =>
  if (a0.fOp != b1.fOp) = true then
  some false
  else
  if (a0.fN != b1.fN) = true then
  some false
  else
  (Klq (a0.fType,b1.fType)) >>= fun a1 =>
  if a1 = true then
  (Kmc (a0.fKids,b1.fKids)) >>= fun a2 =>
  if a2 = true then
  some true
  else
  some false
  else
  some false
 partial_fixpoint
def Kmc (p : (List K01) × (List K01)) : Option (Bool) :=
 match p with
 | (a0,b1) =>
  if ((a0.length : Int) != (b1.length : Int)) = true then
  some false
  else
  (Kmd (a0,b1,0)) >>= fun fl => match fl with
  | .inl () =>
   some true
  | .inr r =>
   some r
 partial_fixpoint
def Kmd (p : (List K01) × (List K01) × Int) : Option ((Unit) ⊕ (Bool)) :=
 match p with
 | (a0,b1,a1) =>
  if (decide (a1 < (a0.length : Int))) = true then
  (idx a0 a1) >>= fun a2 =>
  (idx b1 a1) >>= fun a3 =>
  (Kmb (a2,a3)) >>= fun a4 =>
  if a4 = true then
  Kmd (a0,b1,(wr (a1 + 1)))
  else
  some (.inr false)
  else
  some (.inl ())
 partial_fixpoint
end
def Kme (p : K01 × K01) (r : Bool) : Prop :=
 match p with
 | (a0,b1) => Q71 Tryz.prog 21 [K1w a0,K1w b1] (.bool r) []
def Kmf (p : (List K01) × (List K01)) (r : Bool) : Prop :=
 match p with
 | (a0,b1) => Q71 Tryz.prog 49 [.sl (List.map K0h a0),.sl (List.map K0h b1)] (.bool r) []
def Kmg (p : (List K01) × (List K01) × Int) (fl : (Unit) ⊕ (Bool)) : Prop :=
 match p with
 | (a0,b1,a1) => ∀ c : Ctx,c.nt = 27 → WpL Tryz.prog c (cl (cl (cr (cl (cr (cr B49)))))) (Kma c fl) (mkS [(0,.sl (List.map K0h a0)),(1,.sl (List.map K0h b1)),(5,I a1)] [])
theorem Kmh : (∀ p r,Kmb p = some r → Kme p r) ∧ (∀ p r,Kmc p = some r → Kmf p r) ∧ (∀ p r,Kmd p = some r → Kmg p r) := by
 refine Kmb.mutual_partial_correctness Kme Kmf Kmg ?_ ?_ ?_
 ·rintro laws_eqTermS_f laws_eqTermS_ih ⟨a0,b1⟩ r h
  refine b0 Tryz.f21 B21 27 [(0,K1w a0),(1,K1w b1)] fun c hc => ?_
  refine rs hc none [some (.new 1),some (.new 2),oN] [(2,.ra 1 0),(3,.ra 2 0)] [(1,K1v a0),(2,K1v b1)] tv ?_
  refine sN ?_
  refine K7f hc 5 [(2,.ra 1 0),(3,.ra 2 0),(9,.bool (a0.fOp != b1.fOp))] ?_
  refine ic h (fun a1 h => ?_) fun a1 h => ?_
  ·refine rs0 hc 1 [(4,.bool false)] [] ?_
   refine rt ?_
   obtain rfl := os h
   exact rq [true]
  refine sk ?_
  refine sN ?_
  refine K7f hc 5 [(2,.ra 1 0),(3,.ra 2 0),(14,.bool (a0.fN != b1.fN))] ?_
  refine ic h (fun a2 h => ?_) fun a2 h => ?_
  ·refine rs0 hc 1 [(4,.bool false)] [] ?_
   refine rt ?_
   obtain rfl := os h
   exact rq [true]
  refine sk ?_
  refine sN ?_
  obtain ⟨a3,a4,h⟩ := Qdd h
  refine rss hc none [oN,oN,oN,oN,oc (.bool a3),oN] [(2,.ra 1 0),(3,.ra 2 0),(20,.bool (!a3))] (cq (Kls _ _ a4) K70 tv) ?_
  rcases is h with ⟨a5,h⟩ | ⟨a5,h⟩
  ·refine cF (!a3) (nF a5) ?_
   refine sk ?_
   refine sN ?_
   obtain ⟨a6,a7,h⟩ := Qdd h
   refine rs hc none [oN,oN,oN,oN,oc (.bool a6),oN] [(26,.bool (!a6))] [] (cq (laws_eqTermS_ih _ _ a7) K74 tv) ?_
   rcases is h with ⟨a8,h⟩ | ⟨a8,h⟩
   ·refine cF (!a6) (nF a8) ?_
    refine sk ?_
    refine rs0 hc 1 [(4,.bool true)] [] ?_
    refine rt ?_
    obtain rfl := os h
    exact rq [true]
   refine cT (!a6) (nT a8) ?_
   refine rs0 hc 1 [(4,.bool false)] [] ?_
   refine rt ?_
   obtain rfl := os h
   exact rq [true]
  refine cT (!a3) (nT a5) ?_
  refine rs0 hc 1 [(4,.bool false)] [] ?_
  refine rt ?_
  obtain rfl := os h
  exact rq [true]
 ·rintro laws_eqTermS_l0_f laws_eqTermS_l0_ih ⟨a0,b1⟩ r h
  refine b0 Tryz.f49 B49 27 [(0,.sl (List.map K0h a0)),(1,.sl (List.map K0h b1))] fun c hc => ?_
  refine rs0 hc 1 [(0,.sl (List.map K0h a0)),(1,.sl (List.map K0h b1))] [] ?_
  refine sN ?_
  refine rs hc none [oN,some (.eqv (.no) ⟨[(7,I (a0.length : Int))],[],[]⟩),oN,some (.eqv (.no) ⟨[(9,I (b1.length : Int))],[],[]⟩),oN] [(0,.sl (List.map K0h a0)),(1,.sl (List.map K0h b1)),(10,.bool ((a0.length : Int) != (b1.length : Int)))] [] (ab (Qdj (d := 7) K0h a0) (Qdj (d := 9) K0h b1) tv) ?_
  refine ic h (fun a1 h => ?_) fun a1 h => ?_
  ·refine rs0 hc 1 [(4,.bool false)] [] ?_
   refine rt ?_
   obtain rfl := os h
   exact rq [true]
  refine sk ?_
  refine sN ?_
  refine rs0 hc 1 [(0,.sl (List.map K0h a0)),(1,.sl (List.map K0h b1)),(5,I 0)] [] ?_
  refine bk 0 ?_
  obtain ⟨fl,a9,h⟩ := Qdd h
  have hL := laws_eqTermS_l0_ih _ _ a9 c hc
  refine lp ?_
  rcases fl with ⟨⟩ | r
  ·refine WpL.into (e := (.exit 0)) (mkS [] []) hL ?_
   refine Qcr ?_
   refine rs0 hc 1 [(4,.bool true)] [] ?_
   refine rt ?_
   obtain rfl := os h
   exact rq [true]
  refine WpL.mono hL ?_
  rintro _ _ ⟨rfl,hfin⟩
  obtain rfl := os h
  exact ⟨.inl rfl,hfin⟩
 ·rintro laws_eqTerm_f laws_eqTermS_l0_f laws_eqTerm_ih laws_eqTermS_l0_ih ⟨a0,b1,b2⟩ r h
  intro c hc
  refine WpL.step ?_
  refine sN ?_
  refine rs hc none [oN,oN,some (.eqv (.no) ⟨[(13,I (a0.length : Int))],[],[]⟩),oN] [(0,.sl (List.map K0h a0)),(1,.sl (List.map K0h b1)),(5,I b2),(14,.bool (decide (b2 < (a0.length : Int))))] [] (ai (Qdj (d := 13) K0h a0) tv) ?_
  refine ic h (fun b3 h => ?_) fun b3 h => ?_
  ·refine sk ?_
   refine sN ?_
   refine bk 1 ?_
   obtain ⟨b4,b5,b6,b7,b8,b9,h⟩ := bq3 h
   refine rs hc (rx [[0],[0],[2],[3],[0],[0],[0,4,5],[0,4,5,6],[8],[9]]) [oN,oN,some (.el (K1w b4)),oN,oN,oN,some (.el (K1w b6)),oN,oc (.bool b8),oN] [(0,.sl (List.map K0h a0)),(1,.sl (List.map K0h b1)),(5,I b2),(26,.bool (!b8))] [] (ab (Qdh b5 (K0o b4)) (Qdh b7 (K0o b6)) (cq (laws_eqTerm_ih _ _ b9) K75 tv)) ?_
   rcases is h with ⟨c0,h⟩ | ⟨c0,h⟩
   ·refine cF (!b8) (nF c0) ?_
    refine sk ?_
    refine rg0 hc 3 [(0,.sl (List.map K0h a0)),(1,.sl (List.map K0h b1)),(5,I (wr (b2 + 1)))] [] ?_
    refine Qcv ?_
    exact (laws_eqTermS_l0_ih _ _ h c hc)
   refine cT (!b8) (nT c0) ?_
   refine rs0 hc 1 [(4,.bool false)] [] ?_
   refine rt ?_
   obtain rfl := os h
   exact re [true]
  refine xt 0 ?_
  refine Qcp ?_
  refine Qcw ?_
  obtain rfl := os h
  exact iv []
theorem Kmi : ∀ p r,Kmb p = some r → Kme p r := Kmh.1
theorem Kmj : ∀ p r,Kmc p = some r → Kmf p r := Kmh.2.1
theorem Kmk : ∀ p r,Kmd p = some r → Kmg p r := Kmh.2.2
def Kml (c : Ctx) : Int × (List Int) → Exit → Q0a → Prop
 | (a0,a1) => Qcz c (.exit 0) (mkS [(1,I a0)] [(1000,rI a1)])
def Kmm (p : (List Int) × Int × Int) : Option (Int × (List Int)) :=
 match p with
 | (a0,a1,a2) =>
  if (decide (a2 < (a0.length : Int))) = true then
  (idx a0 a2) >>= fun a3 =>
  Kmm ((List.set a0 (Int.toNat a2) a1),(wr (a1 + 1)),(wr (a2 + 1)))
  else
  some ((a1,a0))
 partial_fixpoint
def Kmn (p : (List Int) × Int × Int) (fl : Int × (List Int)) : Prop :=
 match p with
 | (a0,a1,a2) => ∀ c : Ctx,c.nt = 19 → WpL Tryz.prog c (cl (cl (cr (cl (cr B30))))) (Kml c fl) (mkS [(0,.rs 1000),(1,I a1),(5,I a2)] [(1000,rI a0)])
theorem Kmo : ∀ p r,Kmm p = some r → Kmn p r := by
 refine Kmm.partial_correctness Kmn ?_
 rintro laws_markIntS_l0_f laws_markIntS_l0_ih ⟨a0,a1,a2⟩ r h
 intro c hc
 refine WpL.step ?_
 refine sN ?_
 refine rss hc none [oN,oN,some (.eqv (.no) ⟨[(8,I (a0.length : Int))],[],[]⟩),oN] [(0,.rs 1000),(1,I a1),(5,I a2),(9,.bool (decide (a2 < (a0.length : Int))))] (ai (Qdj (d := 8) I a0) tv) ?_
 refine ic h (fun a3 h => ?_) fun a3 h => ?_
 ·refine sk ?_
  refine sN ?_
  refine bk 1 ?_
  obtain ⟨a4,a5,h⟩ := Qdd h
  refine rs hc none [oN,oN,oN,oN,some (.eqv (.mk 0 true) ⟨[],[(1000,some (.arr (List.map I (List.set a0 (Int.toNat a2) a1))))],[]⟩)] [(0,.rs 1000),(1,I a1),(5,I a2)] [(1000,.arr (List.map I (List.set a0 (Int.toNat a2) a1)))] (ac (Qdi (enc := I) a5) (congrArg (fun z => (⟨[],[(1000,some (.arr z))],[]⟩ : Wr)) (Qeg (enc := I) (i := Int.toNat a2) (l := a0) (v := a1) (x := I a1) (Qds a1))) (Qeh (enc := I) (sz := 1) Qdw a5) tv) ?_
  refine K7e hc 3 [(0,.rs 1000),(1,I (wr (a1 + 1))),(5,I a2)] ?_
  refine K7e hc 3 [(0,.rs 1000),(1,I (wr (a1 + 1))),(5,I (wr (a2 + 1)))] ?_
  refine Qcv ?_
  exact (laws_markIntS_l0_ih _ _ h c hc)
 refine xt 0 ?_
 refine Qcp ?_
 refine Qcw ?_
 obtain ⟨rfl,rfl⟩ := Prod.mk.inj (Option.some.inj h)
 exact iv []
def Kmp (p : (List Int) × Int) : Option (Int × (List Int)) :=
 match p with
 | (a0,k1) =>
  (Kmm (a0,k1,0)) >>= fun (a1,a2) =>
  some (a1,a2)
def Kmq (p : (List Int) × Int) (r : Int × (List Int)) : Prop :=
 match p with
 | (a0,k1) => Q71 Tryz.prog 30 [oI a0,I k1] (I r.1) [oI r.2,.undef]
theorem Kmr : ∀ p r,Kmp p = some r → Kmq p r := by
 rintro ⟨a0,k1⟩ r h
 unfold Kmp at h
 refine Q71.bodyO K2x (fn := Tryz.f30) (code := B30) (by kernel_rfl) (by kernel_rfl) (by kernel_rfl) (nt := 19) (by kernel_rfl) (by kernel_rfl) (T := [(0,.rs 1000),(1,I k1)]) (O := [(1000,rI a0)]) (by kernel_rfl) (by kernel_rfl) (fun c hc => ?_)
 refine K7f hc 1 [(0,.rs 1000),(1,I k1)] ?_
 refine sN ?_
 refine K7f hc 1 [(0,.rs 1000),(1,I k1),(5,I 0)] ?_
 refine bk 0 ?_
 obtain ⟨⟨a1,a2⟩,a3,h⟩ := Qdd h
 have hL := Kmo _ _ a3 c hc
 refine lp ?_
 refine WpL.into (e := (.exit 0)) (mkS [(1,I a1)] [(1000,rI a2)]) hL ?_
 refine Qcr ?_
 refine K7f hc 2 [(4,I a1)] ?_
 refine rt ?_
 obtain rfl := os h
 exact Qda.ret (fl := [true]) (by kernel_rfl)
def Kms (c : Ctx) : Int × (List Bool) → Exit → Q0a → Prop
 | (a0,a1) => Qcz c (.exit 0) (mkS [(1,I a0)] [(1000,.arr (List.map AV.bool a1))])
def Kmt (p : (List Bool) × Int × Int) : Option (Int × (List Bool)) :=
 match p with
 | (a0,a1,a2) =>
  if (decide (a2 < (a0.length : Int))) = true then
  (idx a0 a2) >>= fun a3 =>
  Kmt ((List.set a0 (Int.toNat a2) ((Int.tmod a1 3) == 0)),(wr (a1 + 1)),(wr (a2 + 1)))
  else
  some ((a1,a0))
 partial_fixpoint
def Kmu (p : (List Bool) × Int × Int) (fl : Int × (List Bool)) : Prop :=
 match p with
 | (a0,a1,a2) => ∀ c : Ctx,c.nt = 21 → WpL Tryz.prog c (cl (cl (cr (cl (cr B50))))) (Kms c fl) (mkS [(0,.rs 1000),(1,I a1),(5,I a2)] [(1000,.arr (List.map AV.bool a0))])
theorem Kmv : ∀ p r,Kmt p = some r → Kmu p r := by
 refine Kmt.partial_correctness Kmu ?_
 rintro laws_markBoolS_l0_f laws_markBoolS_l0_ih ⟨a0,a1,a2⟩ r h
 intro c hc
 refine WpL.step ?_
 refine sN ?_
 refine rss hc none [oN,oN,some (.eqv (.no) ⟨[(8,I (a0.length : Int))],[],[]⟩),oN] [(0,.rs 1000),(1,I a1),(5,I a2),(9,.bool (decide (a2 < (a0.length : Int))))] (ai (Qdj (d := 8) AV.bool a0) tv) ?_
 refine ic h (fun a3 h => ?_) fun a3 h => ?_
 ·refine sk ?_
  refine sN ?_
  refine bk 1 ?_
  obtain ⟨a4,a5,h⟩ := Qdd h
  refine rs hc none [oN,oN,oN,oN,oN,oN,some (.eqv (.mk 0 true) ⟨[],[(1000,some (.arr (List.map AV.bool (List.set a0 (Int.toNat a2) ((Int.tmod a1 3) == 0)))))],[]⟩)] [(0,.rs 1000),(1,I a1),(5,I a2)] [(1000,.arr (List.map AV.bool (List.set a0 (Int.toNat a2) ((Int.tmod a1 3) == 0))))] (ad ((by decide) : (3 : Int) ≠ 0) (Qdi (enc := AV.bool) a5) (congrArg (fun z => (⟨[],[(1000,some (.arr z))],[]⟩ : Wr)) (Qeg (enc := AV.bool) (i := Int.toNat a2) (l := a0) (v := ((Int.tmod a1 3) == 0)) (x := AV.bool ((Int.tmod a1 3) == 0)) (Qdu ((Int.tmod a1 3) == 0)))) (Qeh (enc := AV.bool) (sz := 1) Qdy a5) tv) ?_
  refine K7e hc 3 [(0,.rs 1000),(1,I (wr (a1 + 1))),(5,I a2)] ?_
  refine K7e hc 3 [(0,.rs 1000),(1,I (wr (a1 + 1))),(5,I (wr (a2 + 1)))] ?_
  refine Qcv ?_
  exact (laws_markBoolS_l0_ih _ _ h c hc)
 refine xt 0 ?_
 refine Qcp ?_
 refine Qcw ?_
 obtain ⟨rfl,rfl⟩ := Prod.mk.inj (Option.some.inj h)
 exact iv []
def Kmw (p : (List Bool) × Int) : Option (Int × (List Bool)) :=
 match p with
 | (a0,k1) =>
  (Kmt (a0,k1,0)) >>= fun (a1,a2) =>
  some (a1,a2)
def Kmx (p : (List Bool) × Int) (r : Int × (List Bool)) : Prop :=
 match p with
 | (a0,k1) => Q71 Tryz.prog 50 [.osl (List.map AV.bool a0),I k1] (I r.1) [.osl (List.map AV.bool r.2),.undef]
theorem Kmy : ∀ p r,Kmw p = some r → Kmx p r := by
 rintro ⟨a0,k1⟩ r h
 unfold Kmw at h
 refine Q71.bodyO K2x (fn := Tryz.f50) (code := B50) (by kernel_rfl) (by kernel_rfl) (by kernel_rfl) (nt := 21) (by kernel_rfl) (by kernel_rfl) (T := [(0,.rs 1000),(1,I k1)]) (O := [(1000,.arr (List.map AV.bool a0))]) (by kernel_rfl) (by kernel_rfl) (fun c hc => ?_)
 refine K7f hc 1 [(0,.rs 1000),(1,I k1)] ?_
 refine sN ?_
 refine K7f hc 1 [(0,.rs 1000),(1,I k1),(5,I 0)] ?_
 refine bk 0 ?_
 obtain ⟨⟨a1,a2⟩,a3,h⟩ := Qdd h
 have hL := Kmv _ _ a3 c hc
 refine lp ?_
 refine WpL.into (e := (.exit 0)) (mkS [(1,I a1)] [(1000,.arr (List.map AV.bool a2))]) hL ?_
 refine Qcr ?_
 refine K7f hc 2 [(4,I a1)] ?_
 refine rt ?_
 obtain rfl := os h
 exact Qda.ret (fl := [true]) (by kernel_rfl)
def Kmz (p : K00 × Int) : Option (Int × K00) :=
 match p with
 | (a0,k1) =>
  (Kmp (a0.fPlus,k1)) >>= fun (a1,a2) =>
  (Kmp (a0.fTimes,a1)) >>= fun (a3,a4) =>
  (Kmw (a0.fBelow,a3)) >>= fun (a5,a6) =>
  some (a5,(K00.mk a0.fSize a2 a4 a6))
def Kn0 (p : K00 × Int) (r : Int × K00) : Prop :=
 match p with
 | (a0,k1) => Q71 Tryz.prog 22 [K23 a0,I k1] (I r.1) [.agg [.undef,.osl (List.map I r.2.fPlus),.osl (List.map I r.2.fTimes),.osl (List.map AV.bool r.2.fBelow)],.undef]
theorem Kn1 : ∀ p r,Kmz p = some r → Kn0 p r := by
 rintro ⟨a0,k1⟩ r h
 unfold Kmz at h
 refine Q71.bodyO K2x (fn := Tryz.f22) (code := B22) (by kernel_rfl) (by kernel_rfl) (by kernel_rfl) (nt := 18) (by kernel_rfl) (by kernel_rfl) (T := [(0,.agg [I a0.fSize,.rs 1000,.rs 1001,.rs 1002]),(1,I k1)]) (O := [(1000,rI a0.fPlus),(1001,rI a0.fTimes),(1002,.arr (List.map AV.bool a0.fBelow))]) (by kernel_rfl) (by kernel_rfl) (fun c hc => ?_)
 refine rs hc none [some (.new 1),oN] [(1,I k1),(2,.ra 1 0)] [(1,.box [I a0.fSize,.rs 1000,.rs 1001,.rs 1002]),(1000,rI a0.fPlus),(1001,rI a0.fTimes),(1002,.arr (List.map AV.bool a0.fBelow))] tv ?_
 obtain ⟨⟨a1,a2⟩,a3,h⟩ := Qdd h
 refine rs hc none [oN,oN,oN,some (.call (I a1) [oI a2,.undef] 1),oN] [(1,I a1),(2,.ra 1 0)] [(1,.box [I a0.fSize,.rs 1000,.rs 1001,.rs 1002]),(1000,rI a2),(1001,rI a0.fTimes),(1002,.arr (List.map AV.bool a0.fBelow))] (ab (Kmr _ _ a3) K76 tv) ?_
 obtain ⟨⟨a4,a5⟩,a6,h⟩ := Qdd h
 refine rs hc none [oN,oN,oN,some (.call (I a4) [oI a5,.undef] 1),oN] [(1,I a4),(2,.ra 1 0)] [(1,.box [I a0.fSize,.rs 1000,.rs 1001,.rs 1002]),(1000,rI a2),(1001,rI a5),(1002,.arr (List.map AV.bool a0.fBelow))] (ab (Kmr _ _ a6) K76 tv) ?_
 obtain ⟨⟨a7,a8⟩,a9,h⟩ := Qdd h
 refine rs hc none [oN,oN,oN,some (.call (I a7) [.osl (List.map AV.bool a8),.undef] 1),oN] [(1,I a7)] [(1000,rI a2),(1001,rI a5),(1002,.arr (List.map AV.bool a8))] (ab (Kmy _ _ a9) K77 tv) ?_
 refine K7f hc 2 [(4,I a7)] ?_
 refine rt ?_
 obtain rfl := os h
 exact Qda.ret (fl := [true]) (by kernel_rfl)
def Kn2 (c : Ctx) : Int × LL → Exit → Q0a → Prop
 | (a0,a1) => Qcz c (.exit 0) (mkS [(1,I a0)] [(1000,.arr (List.map K16 a1))])
def Kn3 (p : LL × Int × Int) : Option (Int × LL) :=
 match p with
 | (a0,a1,a2) =>
  if (decide (a2 < (a0.length : Int))) = true then
  (idx a0 a2) >>= fun a3 =>
  (Kmp (a3,a1)) >>= fun (a4,a5) =>
  Kn3 ((List.set a0 (Int.toNat a2) a5),a4,(wr (a2 + 1)))
  else
  some ((a1,a0))
 partial_fixpoint
def Kn4 (p : LL × Int × Int) (fl : Int × LL) : Prop :=
 match p with
 | (a0,a1,a2) => ∀ c : Ctx,c.nt = 19 → WpL Tryz.prog c (cl (cl (cr (cl (cr B23))))) (Kn2 c fl) (mkS [(0,.rs 1000),(1,I a1),(5,I a2)] [(1000,.arr (List.map K16 a0))])
theorem Kn5 : ∀ p r,Kn3 p = some r → Kn4 p r := by
 refine Kn3.partial_correctness Kn4 ?_
 rintro laws_markIntSS_l0_f laws_markIntSS_l0_ih ⟨a0,a1,a2⟩ r h
 intro c hc
 refine WpL.step ?_
 refine sN ?_
 refine rss hc none [oN,oN,some (.eqv (.no) ⟨[(8,I (a0.length : Int))],[],[]⟩),oN] [(0,.rs 1000),(1,I a1),(5,I a2),(9,.bool (decide (a2 < (a0.length : Int))))] (ai (Qdj (d := 8) K16 a0) tv) ?_
 refine ic h (fun a3 h => ?_) fun a3 h => ?_
 ·refine sk ?_
  refine sN ?_
  refine bk 1 ?_
  obtain ⟨a4,a5,h⟩ := Qdd h
  refine Wp.view (fun a w hv => SRx.openL 1000 (Int.toNat a2) 0 2 [2,1000] (xs := List.map K16 a0) (ys := List.map I a4) (x0 := oI a4) hv (by kernel_rfl) (Qdh a5 (K17 a4)).2 (by kernel_rfl) (by kernel_rfl) (by kernel_rfl)) (?_ : Wp Tryz.prog c _ _ (mkS [(0,.rs 1000),(1,I a1),(5,I a2),(9,.bool (decide (a2 < (a0.length : Int))))] [(2,rI a4),(1000,.arx (List.map K16 a0) (Int.toNat a2) 0 2)]))
  obtain ⟨⟨a6,a7⟩,a8,h⟩ := Qdd h
  refine rg hc none [oN,oN,oN,some (.el (oI a4)),oN,some (.call (I a6) [oI a7,.undef] 1),oN] [(0,.rs 1000),(1,I a6),(5,I a2)] [(2,rI a7),(1000,.arx (List.map K16 a0) (Int.toNat a2) 0 2)] (ad (Qdi (enc := K16) a5) (And.intro (Qdh a5 (K17 a4)).2 (rfl : Int.toNat a2 = Int.toNat a2)) (Kmr _ _ a8) K76 tv) ?_
  refine Wp.view (fun a w hv => SRx.closeL 1000 (Int.toNat a2) 0 2 [1000] (xs := List.map K16 a0) (ys := List.map I a7) (x0 := oI a4) (x1 := oI a7) hv (by kernel_rfl) (by kernel_rfl) (by kernel_rfl) (Qdh a5 (K17 a4)).2 (by kernel_rfl) (by kernel_rfl : _ = oI a7) (Qeg (enc := K16) (i := Int.toNat a2) (l := a0) (v := a7) (x := oI a7) (K17 a7)) (by kernel_rfl)) (?_ : Wp Tryz.prog c _ _ (mkS [(0,.rs 1000),(1,I a6),(5,I a2)] [(1000,.arr (List.map K16 (List.set a0 (Int.toNat a2) a7)))]))
  refine K7e hc 3 [(0,.rs 1000),(1,I a6),(5,I (wr (a2 + 1)))] ?_
  refine Qcv ?_
  exact (laws_markIntSS_l0_ih _ _ h c hc)
 refine xt 0 ?_
 refine Qcp ?_
 refine Qcw ?_
 obtain ⟨rfl,rfl⟩ := Prod.mk.inj (Option.some.inj h)
 exact iv []
def Kn6 (p : LL × Int) : Option (Int × LL) :=
 match p with
 | (a0,k1) =>
  (Kn3 (a0,k1,0)) >>= fun (a1,a2) =>
  some (a1,a2)
def Kn7 (p : LL × Int) (r : Int × LL) : Prop :=
 match p with
 | (a0,k1) => Q71 Tryz.prog 23 [.osl (List.map K16 a0),I k1] (I r.1) [.osl (List.map K16 r.2),.undef]
theorem Kn8 : ∀ p r,Kn6 p = some r → Kn7 p r := by
 rintro ⟨a0,k1⟩ r h
 unfold Kn6 at h
 refine Q71.bodyO K2x (fn := Tryz.f23) (code := B23) (by kernel_rfl) (by kernel_rfl) (by kernel_rfl) (nt := 19) (by kernel_rfl) (by kernel_rfl) (T := [(0,.rs 1000),(1,I k1)]) (O := [(1000,.arr (List.map K16 a0))]) (by kernel_rfl) (by kernel_rfl) (fun c hc => ?_)
 refine K7f hc 1 [(0,.rs 1000),(1,I k1)] ?_
 refine sN ?_
 refine K7f hc 1 [(0,.rs 1000),(1,I k1),(5,I 0)] ?_
 refine bk 0 ?_
 obtain ⟨⟨a1,a2⟩,a3,h⟩ := Qdd h
 have hL := Kn5 _ _ a3 c hc
 refine lp ?_
 refine WpL.into (e := (.exit 0)) (mkS [(1,I a1)] [(1000,.arr (List.map K16 a2))]) hL ?_
 refine Qcr ?_
 refine K7f hc 2 [(4,I a1)] ?_
 refine rt ?_
 obtain rfl := os h
 exact Qda.ret (fl := [true]) (by kernel_rfl)
def Kn9 (c : Ctx) : Int × (List K01) → Exit → Q0a → Prop
 | (a0,a1) => Qcz c (.exit 0) (mkS [(1,I a0)] [(1000,.arr (List.map K0k a1))])
mutual
def Kna (p : (List K01) × Int) : Option (Int × (List K01)) :=
 match p with
 | (a0,k1) =>
  (Knb (a0,k1,0)) >>= fun (a1,a2) =>
  some (a1,a2)
 partial_fixpoint
def Knb (p : (List K01) × Int × Int) : Option (Int × (List K01)) :=
 match p with
 | (a0,a1,a2) =>
  if (decide (a2 < (a0.length : Int))) = true then
  (idx a0 a2) >>= fun a3 =>
  (idx (List.set a0 (Int.toNat a2) (K01.mk a1 a3.fN a3.fType a3.fKids)) a2) >>= fun a4 =>
  (idx (List.set (List.set a0 (Int.toNat a2) (K01.mk a1 a3.fN a3.fType a3.fKids)) (Int.toNat a2) (K01.mk a4.fOp (wr (a1 + 1)) a4.fType a4.fKids)) a2) >>= fun a5 =>
  (Kmp (a5.fType,(wr ((wr (a1 + 1)) + 1)))) >>= fun (a6,a7) =>
  (idx (List.set (List.set (List.set a0 (Int.toNat a2) (K01.mk a1 a3.fN a3.fType a3.fKids)) (Int.toNat a2) (K01.mk a4.fOp (wr (a1 + 1)) a4.fType a4.fKids)) (Int.toNat a2) (K01.mk a5.fOp a5.fN a7 a5.fKids)) a2) >>= fun a8 =>
  (Kna (a8.fKids,a6)) >>= fun (a9,b1) =>
  Knb ((List.set (List.set (List.set (List.set a0 (Int.toNat a2) (K01.mk a1 a3.fN a3.fType a3.fKids)) (Int.toNat a2) (K01.mk a4.fOp (wr (a1 + 1)) a4.fType a4.fKids)) (Int.toNat a2) (K01.mk a5.fOp a5.fN a7 a5.fKids)) (Int.toNat a2) (K01.mk a8.fOp a8.fN a8.fType b1)),a9,(wr (a2 + 1)))
  else
  some ((a1,a0))
 partial_fixpoint
end
def Knc (p : (List K01) × Int) (r : Int × (List K01)) : Prop :=
 match p with
 | (a0,k1) => Q71 Tryz.prog 51 [.osl (List.map K0k a0),I k1] (I r.1) [.osl (List.map K0k r.2),.undef]
def Knd (p : (List K01) × Int × Int) (fl : Int × (List K01)) : Prop :=
 match p with
 | (a0,a1,a2) => ∀ c : Ctx,c.nt = 41 → WpL Tryz.prog c (cl (cl (cr (cl (cr B51))))) (Kn9 c fl) (mkS [(0,.rs 1000),(1,I a1),(5,I a2)] [(1000,.arr (List.map K0k a0))])
theorem Kne : (∀ p r,Kna p = some r → Knc p r) ∧ (∀ p r,Knb p = some r → Knd p r) := by
 refine Kna.mutual_partial_correctness Knc Knd ?_ ?_
 ·rintro laws_markTermS_l0_f laws_markTermS_l0_ih ⟨a0,k1⟩ r h
  refine Q71.bodyO K2x (fn := Tryz.f51) (code := B51) (by kernel_rfl) (by kernel_rfl) (by kernel_rfl) (nt := 41) (by kernel_rfl) (by kernel_rfl) (T := [(0,.rs 1000),(1,I k1)]) (O := [(1000,.arr (List.map K0k a0))]) (by kernel_rfl) (by kernel_rfl) (fun c hc => ?_)
  refine K7f hc 1 [(0,.rs 1000),(1,I k1)] ?_
  refine sN ?_
  refine K7f hc 1 [(0,.rs 1000),(1,I k1),(5,I 0)] ?_
  refine bk 0 ?_
  obtain ⟨⟨a1,a2⟩,a3,h⟩ := Qdd h
  have hL := laws_markTermS_l0_ih _ _ a3 c hc
  refine lp ?_
  refine WpL.into (e := (.exit 0)) (mkS [(1,I a1)] [(1000,.arr (List.map K0k a2))]) hL ?_
  refine Qcr ?_
  refine K7f hc 2 [(4,I a1)] ?_
  refine rt ?_
  obtain rfl := os h
  exact Qda.ret (fl := [true]) (by kernel_rfl)
 ·rintro laws_markTermS_f laws_markTermS_l0_f laws_markTermS_ih laws_markTermS_l0_ih ⟨a4,a5,a6⟩ r h
  intro c hc
  refine WpL.step ?_
  refine sN ?_
  refine rss hc none [oN,oN,some (.eqv (.no) ⟨[(8,I (a4.length : Int))],[],[]⟩),oN] [(0,.rs 1000),(1,I a5),(5,I a6),(9,.bool (decide (a6 < (a4.length : Int))))] (ai (Qdj (d := 8) K0k a4) tv) ?_
  refine ic h (fun a7 h => ?_) fun a7 h => ?_
  ·refine sk ?_
   refine sN ?_
   refine bk 1 ?_
   obtain ⟨a8,a9,h⟩ := Qdd h
   refine rs hc none [oN,oN,oN,oN,oN,some (.eqv (.el (K25 a8)) ⟨[],[(1000,some (.arr (List.map K0k (List.set a4 (Int.toNat a6) (K01.mk a5 a8.fN a8.fType a8.fKids)))))],[]⟩)] [(0,.rs 1000),(1,I a5),(5,I a6)] [(1000,.arr (List.map K0k (List.set a4 (Int.toNat a6) (K01.mk a5 a8.fN a8.fType a8.fKids))))] (ac (Qdi (enc := K0k) a9) (congrArg (fun z => (⟨[],[(1000,some (.arr z))],[]⟩ : Wr)) (Qeg (enc := K0k) (i := Int.toNat a6) (l := a4) (v := (K01.mk a5 a8.fN a8.fType a8.fKids)) (x := AV.agg [I a5,I a8.fN,oI a8.fType,.osl (List.map K0k a8.fKids)]) (K0q (K01.mk a5 a8.fN a8.fType a8.fKids)))) (Qdh a9 (K0q a8)).2 tv) ?_
   refine K7f hc 3 [(0,.rs 1000),(1,I (wr (a5 + 1))),(5,I a6)] ?_
   obtain ⟨b1,b2,h⟩ := Qdd h
   refine rs hc none [oN,oN,oN,oN,oN,some (.eqv (.el (K25 b1)) ⟨[],[(1000,some (.arr (List.map K0k (List.set (List.set a4 (Int.toNat a6) (K01.mk a5 a8.fN a8.fType a8.fKids)) (Int.toNat a6) (K01.mk b1.fOp (wr (a5 + 1)) b1.fType b1.fKids)))))],[]⟩)] [(0,.rs 1000),(1,I (wr (a5 + 1))),(5,I a6)] [(1000,.arr (List.map K0k (List.set (List.set a4 (Int.toNat a6) (K01.mk a5 a8.fN a8.fType a8.fKids)) (Int.toNat a6) (K01.mk b1.fOp (wr (a5 + 1)) b1.fType b1.fKids))))] (ac (Qdi (enc := K0k) b2) (congrArg (fun z => (⟨[],[(1000,some (.arr z))],[]⟩ : Wr)) (Qeg (enc := K0k) (i := Int.toNat a6) (l := (List.set a4 (Int.toNat a6) (K01.mk a5 a8.fN a8.fType a8.fKids))) (v := (K01.mk b1.fOp (wr (a5 + 1)) b1.fType b1.fKids)) (x := AV.agg [I b1.fOp,I (wr (a5 + 1)),oI b1.fType,.osl (List.map K0k b1.fKids)]) (K0q (K01.mk b1.fOp (wr (a5 + 1)) b1.fType b1.fKids)))) (Qdh b2 (K0q b1)).2 tv) ?_
   refine K7f hc 3 [(0,.rs 1000),(1,I (wr ((wr (a5 + 1)) + 1))),(5,I a6)] ?_
   refine sN ?_
   obtain ⟨b3,b4,h⟩ := Qdd h
   refine Wp.view (fun a w hv => SRx.openL 1000 (Int.toNat a6) 2 3 [3,1000] (xs := List.map K0k (List.set (List.set a4 (Int.toNat a6) (K01.mk a5 a8.fN a8.fType a8.fKids)) (Int.toNat a6) (K01.mk b1.fOp (wr (a5 + 1)) b1.fType b1.fKids))) (ys := List.map I b3.fType) (x0 := K25 b3) hv (by kernel_rfl) (Qdh b4 (K0q b3)).2 (by kernel_rfl) (by kernel_rfl) (by kernel_rfl)) (?_ : Wp Tryz.prog c _ _ (mkS [(0,.rs 1000),(1,I (wr ((wr (a5 + 1)) + 1))),(5,I a6)] [(3,rI b3.fType),(1000,.arx (List.map K0k (List.set (List.set a4 (Int.toNat a6) (K01.mk a5 a8.fN a8.fType a8.fKids)) (Int.toNat a6) (K01.mk b1.fOp (wr (a5 + 1)) b1.fType b1.fKids))) (Int.toNat a6) 2 3)]))
   obtain ⟨⟨b5,b6⟩,b7,h⟩ := Qdd h
   refine rg hc none [oN,oN,oN,oN,some (.el (K25 b3)),oN,some (.call (I b5) [oI b6,.undef] 1),oN] [(0,.rs 1000),(1,I b5),(5,I a6)] [(3,rI b6),(1000,.arx (List.map K0k (List.set (List.set a4 (Int.toNat a6) (K01.mk a5 a8.fN a8.fType a8.fKids)) (Int.toNat a6) (K01.mk b1.fOp (wr (a5 + 1)) b1.fType b1.fKids))) (Int.toNat a6) 2 3)] (ad (Qdi (enc := K0k) b4) (And.intro (Qdh b4 (K0q b3)).2 (rfl : Int.toNat a6 = Int.toNat a6)) (Kmr _ _ b7) K76 tv) ?_
   refine Wp.view (fun a w hv => SRx.closeL 1000 (Int.toNat a6) 2 3 [1000] (xs := List.map K0k (List.set (List.set a4 (Int.toNat a6) (K01.mk a5 a8.fN a8.fType a8.fKids)) (Int.toNat a6) (K01.mk b1.fOp (wr (a5 + 1)) b1.fType b1.fKids))) (ys := List.map I b6) (x0 := K25 b3) (x1 := AV.agg [I b3.fOp,I b3.fN,oI b6,.osl (List.map K0k b3.fKids)]) hv (by kernel_rfl) (by kernel_rfl) (by kernel_rfl) (Qdh b4 (K0q b3)).2 (by kernel_rfl) (by kernel_rfl : _ = AV.agg [I b3.fOp,I b3.fN,oI b6,.osl (List.map K0k b3.fKids)]) (Qeg (enc := K0k) (i := Int.toNat a6) (l := (List.set (List.set a4 (Int.toNat a6) (K01.mk a5 a8.fN a8.fType a8.fKids)) (Int.toNat a6) (K01.mk b1.fOp (wr (a5 + 1)) b1.fType b1.fKids))) (v := (K01.mk b3.fOp b3.fN b6 b3.fKids)) (x := AV.agg [I b3.fOp,I b3.fN,oI b6,.osl (List.map K0k b3.fKids)]) (K0q (K01.mk b3.fOp b3.fN b6 b3.fKids))) (by kernel_rfl)) (?_ : Wp Tryz.prog c _ _ (mkS [(0,.rs 1000),(1,I b5),(5,I a6)] [(1000,.arr (List.map K0k (List.set (List.set (List.set a4 (Int.toNat a6) (K01.mk a5 a8.fN a8.fType a8.fKids)) (Int.toNat a6) (K01.mk b1.fOp (wr (a5 + 1)) b1.fType b1.fKids)) (Int.toNat a6) (K01.mk b3.fOp b3.fN b6 b3.fKids))))]))
   obtain ⟨b8,b9,h⟩ := Qdd h
   refine Wp.view (fun a w hv => SRx.openL 1000 (Int.toNat a6) 3 4 [4,1000] (xs := List.map K0k (List.set (List.set (List.set a4 (Int.toNat a6) (K01.mk a5 a8.fN a8.fType a8.fKids)) (Int.toNat a6) (K01.mk b1.fOp (wr (a5 + 1)) b1.fType b1.fKids)) (Int.toNat a6) (K01.mk b3.fOp b3.fN b6 b3.fKids))) (ys := List.map K0k b8.fKids) (x0 := K25 b8) hv (by kernel_rfl) (Qdh b9 (K0q b8)).2 (by kernel_rfl) (by kernel_rfl) (by kernel_rfl)) (?_ : Wp Tryz.prog c _ _ (mkS [(0,.rs 1000),(1,I b5),(5,I a6)] [(4,.arr (List.map K0k b8.fKids)),(1000,.arx (List.map K0k (List.set (List.set (List.set a4 (Int.toNat a6) (K01.mk a5 a8.fN a8.fType a8.fKids)) (Int.toNat a6) (K01.mk b1.fOp (wr (a5 + 1)) b1.fType b1.fKids)) (Int.toNat a6) (K01.mk b3.fOp b3.fN b6 b3.fKids))) (Int.toNat a6) 3 4)]))
   obtain ⟨⟨c0,c1⟩,c2,h⟩ := Qdd h
   refine rg hc none [oN,oN,oN,oN,some (.el (K25 b8)),oN,some (.call (I c0) [.osl (List.map K0k c1),.undef] 1),oN] [(0,.rs 1000),(1,I c0),(5,I a6)] [(4,.arr (List.map K0k c1)),(1000,.arx (List.map K0k (List.set (List.set (List.set a4 (Int.toNat a6) (K01.mk a5 a8.fN a8.fType a8.fKids)) (Int.toNat a6) (K01.mk b1.fOp (wr (a5 + 1)) b1.fType b1.fKids)) (Int.toNat a6) (K01.mk b3.fOp b3.fN b6 b3.fKids))) (Int.toNat a6) 3 4)] (ad (Qdi (enc := K0k) b9) (And.intro (Qdh b9 (K0q b8)).2 (rfl : Int.toNat a6 = Int.toNat a6)) (laws_markTermS_ih _ _ c2) K7a tv) ?_
   refine Wp.view (fun a w hv => SRx.closeL 1000 (Int.toNat a6) 3 4 [1000] (xs := List.map K0k (List.set (List.set (List.set a4 (Int.toNat a6) (K01.mk a5 a8.fN a8.fType a8.fKids)) (Int.toNat a6) (K01.mk b1.fOp (wr (a5 + 1)) b1.fType b1.fKids)) (Int.toNat a6) (K01.mk b3.fOp b3.fN b6 b3.fKids))) (ys := List.map K0k c1) (x0 := K25 b8) (x1 := AV.agg [I b8.fOp,I b8.fN,oI b8.fType,.osl (List.map K0k c1)]) hv (by kernel_rfl) (by kernel_rfl) (by kernel_rfl) (Qdh b9 (K0q b8)).2 (by kernel_rfl) (by kernel_rfl : _ = AV.agg [I b8.fOp,I b8.fN,oI b8.fType,.osl (List.map K0k c1)]) (Qeg (enc := K0k) (i := Int.toNat a6) (l := (List.set (List.set (List.set a4 (Int.toNat a6) (K01.mk a5 a8.fN a8.fType a8.fKids)) (Int.toNat a6) (K01.mk b1.fOp (wr (a5 + 1)) b1.fType b1.fKids)) (Int.toNat a6) (K01.mk b3.fOp b3.fN b6 b3.fKids))) (v := (K01.mk b8.fOp b8.fN b8.fType c1)) (x := AV.agg [I b8.fOp,I b8.fN,oI b8.fType,.osl (List.map K0k c1)]) (K0q (K01.mk b8.fOp b8.fN b8.fType c1))) (by kernel_rfl)) (?_ : Wp Tryz.prog c _ _ (mkS [(0,.rs 1000),(1,I c0),(5,I a6)] [(1000,.arr (List.map K0k (List.set (List.set (List.set (List.set a4 (Int.toNat a6) (K01.mk a5 a8.fN a8.fType a8.fKids)) (Int.toNat a6) (K01.mk b1.fOp (wr (a5 + 1)) b1.fType b1.fKids)) (Int.toNat a6) (K01.mk b3.fOp b3.fN b6 b3.fKids)) (Int.toNat a6) (K01.mk b8.fOp b8.fN b8.fType c1))))]))
   refine K7e hc 3 [(0,.rs 1000),(1,I c0),(5,I (wr (a6 + 1)))] ?_
   refine Qcv ?_
   exact (laws_markTermS_l0_ih _ _ h c hc)
  refine xt 0 ?_
  refine Qcp ?_
  refine Qcw ?_
  obtain ⟨rfl,rfl⟩ := Prod.mk.inj (Option.some.inj h)
  exact iv []
theorem Knf : ∀ p r,Kna p = some r → Knc p r := Kne.1
theorem Kng : ∀ p r,Knb p = some r → Knd p r := Kne.2
def Knh (p : K01 × Int) : Option (Int × K01) :=
 match p with
 | (a0,k1) =>
  (Kmp (a0.fType,k1)) >>= fun (a1,a2) =>
  (Kna (a0.fKids,a1)) >>= fun (a3,a4) =>
  some (a3,(K01.mk a0.fOp a0.fN a2 a4))
def Kni (p : K01 × Int) (r : Int × K01) : Prop :=
 match p with
 | (a0,k1) => Q71 Tryz.prog 24 [K25 a0,I k1] (I r.1) [.agg [.undef,.undef,.osl (List.map I r.2.fType),.osl (List.map K0k r.2.fKids)],.undef]
theorem Knj : ∀ p r,Knh p = some r → Kni p r := by
 rintro ⟨a0,k1⟩ r h
 unfold Knh at h
 refine Q71.bodyO K2x (fn := Tryz.f24) (code := B24) (by kernel_rfl) (by kernel_rfl) (by kernel_rfl) (nt := 14) (by kernel_rfl) (by kernel_rfl) (T := [(0,.agg [I a0.fOp,I a0.fN,.rs 1000,.rs 1001]),(1,I k1)]) (O := [(1000,rI a0.fType),(1001,.arr (List.map K0k a0.fKids))]) (by kernel_rfl) (by kernel_rfl) (fun c hc => ?_)
 refine rs hc none [some (.new 1),oN] [(1,I k1),(2,.ra 1 0)] [(1,.box [I a0.fOp,I a0.fN,.rs 1000,.rs 1001]),(1000,rI a0.fType),(1001,.arr (List.map K0k a0.fKids))] tv ?_
 obtain ⟨⟨a1,a2⟩,a3,h⟩ := Qdd h
 refine rs hc none [oN,oN,oN,some (.call (I a1) [oI a2,.undef] 1),oN] [(1,I a1),(2,.ra 1 0)] [(1,.box [I a0.fOp,I a0.fN,.rs 1000,.rs 1001]),(1000,rI a2),(1001,.arr (List.map K0k a0.fKids))] (ab (Kmr _ _ a3) K76 tv) ?_
 obtain ⟨⟨a4,a5⟩,a6,h⟩ := Qdd h
 refine rs hc none [oN,oN,oN,some (.call (I a4) [.osl (List.map K0k a5),.undef] 1),oN] [(1,I a4)] [(1000,rI a2),(1001,.arr (List.map K0k a5))] (ab (Knf _ _ a6) K7a tv) ?_
 refine K7f hc 2 [(4,I a4)] ?_
 refine rt ?_
 obtain rfl := os h
 exact Qda.ret (fl := [true]) (by kernel_rfl)
def Knk (c : Ctx) : (Int) ⊕ (Int) → Exit → Q0a → Prop
 | .inl a0 => Qcz c (.exit 0) (mkS [(1,I a0)] [])
 | .inr r => Qd8 TIx Tryz.f31 [] (I r)
def Knl (p : (List Int) × Int × Int) : Option ((Int) ⊕ (Int)) :=
 match p with
 | (a0,a1,a2) =>
  if (decide (a2 < (a0.length : Int))) = true then
  (idx a0 a2) >>= fun a3 =>
  if (a3 != a1) = true then
  some (.inr (-1))
  else
  Knl (a0,(wr (a1 + 1)),(wr (a2 + 1)))
  else
  some (.inl a1)
 partial_fixpoint
def Knm (p : (List Int) × Int × Int) (fl : (Int) ⊕ (Int)) : Prop :=
 match p with
 | (a0,a1,a2) => ∀ c : Ctx,c.nt = 21 → WpL Tryz.prog c (cl (cl (cr (cl (cr B31))))) (Knk c fl) (mkS [(0,sI a0),(1,I a1),(5,I a2)] [])
theorem Knn : ∀ p r,Knl p = some r → Knm p r := by
 refine Knl.partial_correctness Knm ?_
 rintro laws_heldIntS_l0_f laws_heldIntS_l0_ih ⟨a0,a1,a2⟩ r h
 intro c hc
 refine WpL.step ?_
 refine sN ?_
 refine rs hc none [oN,oN,some (.eqv (.no) ⟨[(8,I (a0.length : Int))],[],[]⟩),oN] [(0,sI a0),(1,I a1),(5,I a2),(9,.bool (decide (a2 < (a0.length : Int))))] [] (ai (Qdj (d := 8) I a0) tv) ?_
 refine ic h (fun a3 h => ?_) fun a3 h => ?_
 ·refine sk ?_
  refine sN ?_
  refine bk 1 ?_
  refine sN ?_
  obtain ⟨a4,a5,h⟩ := Qdd h
  refine rs hc none [oN,oN,some (.el (I a4)),oN,oN,oN] [(0,sI a0),(1,I a1),(5,I a2),(17,.bool (a4 != a1))] [] (ai (ix a5) tv) ?_
  refine ic h (fun a6 h => ?_) fun a6 h => ?_
  ·refine rs0 hc 1 [(4,I (-1))] [] ?_
   refine rt ?_
   obtain rfl := os h
   exact re [true]
  refine sk ?_
  refine rg0 hc 3 [(0,sI a0),(1,I (wr (a1 + 1))),(5,I a2)] [] ?_
  refine rg0 hc 3 [(0,sI a0),(1,I (wr (a1 + 1))),(5,I (wr (a2 + 1)))] [] ?_
  refine Qcv ?_
  exact (laws_heldIntS_l0_ih _ _ h c hc)
 refine xt 0 ?_
 refine Qcp ?_
 refine Qcw ?_
 obtain rfl := os h
 exact iv []
def Kno (p : (List Int) × Int) : Option (Int) :=
 match p with
 | (a0,k1) =>
  (Knl (a0,k1,0)) >>= fun fl => match fl with
  | .inl a1 =>
   some a1
  | .inr r =>
   some r
def Knp (p : (List Int) × Int) (r : Int) : Prop :=
 match p with
 | (a0,k1) => Q71 Tryz.prog 31 [sI a0,I k1] (I r) []
theorem Knq : ∀ p r,Kno p = some r → Knp p r := by
 rintro ⟨a0,k1⟩ r h
 unfold Kno at h
 refine b0 Tryz.f31 B31 21 [(0,sI a0),(1,I k1)] fun c hc => ?_
 refine rs0 hc 1 [(0,sI a0),(1,I k1)] [] ?_
 refine sN ?_
 refine rs0 hc 1 [(0,sI a0),(1,I k1),(5,I 0)] [] ?_
 refine bk 0 ?_
 obtain ⟨fl,a1,h⟩ := Qdd h
 have hL := Knn _ _ a1 c hc
 refine lp ?_
 rcases fl with a2 | r
 ·refine WpL.into (e := (.exit 0)) (mkS [(1,I a2)] []) hL ?_
  refine Qcr ?_
  refine rs0 hc 2 [(4,I a2)] [] ?_
  refine rt ?_
  obtain rfl := os h
  exact rq [true]
 refine WpL.mono hL ?_
 rintro _ _ ⟨rfl,hfin⟩
 obtain rfl := os h
 exact ⟨.inl rfl,hfin⟩
def Knr : Option (List (List Nat)) := rh [0,1,0,3,0,5,6,7,8,8,9,11]
def Kns : Option (List (List Nat)) := rx [[0],[0],[0,1],[3],[4]]
def Knt (p : K00 × LL × K01) : Option (Bool) :=
 match p with
 | (aS0,aCtx1,aT2) =>
  (K7n (aS0,1048576)) >>= fun a0 =>
  if (decide (a0 < 0)) = true then
  some true
  else
  (K7u (aCtx1,a0)) >>= fun a1 =>
  if (decide (a1 < 0)) = true then
  some true
  else
  (K7y (aT2,a1)) >>= fun a2 =>
  if (decide (a2 < 0)) = true then
  some true
  else
  (K8m aS0) >>= fun a3 =>
  (K8t aCtx1) >>= fun a4 =>
  (K8x aT2) >>= fun a5 =>
  (Kew (a3,a4,a5)) >>= fun (a6,a7) =>
  (K8m aS0) >>= fun a8 =>
  (K8t aCtx1) >>= fun a9 =>
  (K8x aT2) >>= fun b1 =>
  (Klj (a8,a9,b1)) >>= fun (b2,b3) =>
  ((
  if (b2 != a6) = true then
  some (true)
  else
  (Klq (b3,a7)) >>= fun b4 =>
  some ((!b4))
  ) : Option (Bool)) >>= fun b5 =>
  if b5 = true then
  some false
  else
  (K8m aS0) >>= fun b6 =>
  (Km0 (a8,b6)) >>= fun b7 =>
  if b7 = true then
  (K8t aCtx1) >>= fun b8 =>
  (Km7 (a9,b8)) >>= fun b9 =>
  if b9 = true then
  (K8x aT2) >>= fun c0 =>
  (Kmb (b1,c0)) >>= fun c1 =>
  if c1 = true then
  (Kmz (a8,1)) >>= fun (c2,c3) =>
  (Kn6 (a9,c2)) >>= fun (c4,c5) =>
  (Knh (b1,c4)) >>= fun (c6,c7) =>
  ((
  if (decide (c6 < 0)) = true then
  some (true)
  else
  if (b2 != a6) = true then
  some (true)
  else
  (Klq (b3,a7)) >>= fun c8 =>
  some ((!c8))
  ) : Option (Bool)) >>= fun c9 =>
  if c9 = true then
  some false
  else
  (Kmp (b3,1)) >>= fun (d0,d1) =>
  (Kno (d1,1)) >>= fun d2 =>
  if (decide (d2 < 0)) = true then
  some false
  else
  if (d2 != d0) = true then
  some false
  else
  (K8m aS0) >>= fun d3 =>
  (K8t aCtx1) >>= fun d4 =>
  (K8x aT2) >>= fun d5 =>
  (Klj (d3,d4,d5)) >>= fun (d6,d7) =>
  ((
  if (d6 != a6) = true then
  some (true)
  else
  (Klq (d7,a7)) >>= fun d8 =>
  some ((!d8))
  ) : Option (Bool)) >>= fun d9 =>
  if d9 = true then
  some false
  else
  (Kno (d1,1)) >>= fun e0 =>
  if (decide (e0 < 0)) = true then
  some false
  else
  if (e0 != d0) = true then
  some false
  else
  some true
  else
  some false
  else
  some false
  else
  some false
def Knu (p : K00 × LL × K01) (r : Bool) : Prop :=
 match p with
 | (aS0,aCtx1,aT2) => Q71 Tryz.prog 5 [K1u aS0,sL aCtx1,K1w aT2] (.bool r) []
theorem Knv : ∀ p r,Knt p = some r → Knu p r := by
 rintro ⟨aS0,aCtx1,aT2⟩ r h
 unfold Knt at h
 refine b0 Tryz.f5 B5 142 [(0,K1u aS0),(1,sL aCtx1),(2,K1w aT2)] fun c hc => ?_
 refine rs hc none [some (.new 1),some (.new 2),oN] [(1,sL aCtx1),(3,.ra 1 0),(5,.ra 2 0)] [(1,K1t aS0),(2,K1v aT2)] tv ?_
 refine K7f hc 1 [(1,sL aCtx1),(3,.ra 1 0),(5,.ra 2 0),(7,I 1048576)] ?_
 obtain ⟨a0,a1,h⟩ := Qdd h
 refine rss hc none [oN,oN,oc (I a0),oN] [(1,sL aCtx1),(3,.ra 1 0),(5,.ra 2 0),(7,I a0)] (cq (K7p _ _ a1) K30 tv) ?_
 refine sN ?_
 refine K7f hc 2 [(1,sL aCtx1),(3,.ra 1 0),(5,.ra 2 0),(7,I a0),(24,.bool (decide (a0 < 0)))] ?_
 refine ic h (fun a2 h => ?_) fun a2 h => ?_
 ·refine rs0 hc 1 [(6,.bool true)] [] ?_
  refine rt ?_
  obtain rfl := os h
  exact rq [true]
 refine sk ?_
 obtain ⟨a3,a4,h⟩ := Qdd h
 refine rss hc none [oN,oN,oc (I a3),oN] [(1,sL aCtx1),(3,.ra 1 0),(5,.ra 2 0),(7,I a3)] (cq (K7w _ _ a4) K31 tv) ?_
 refine sN ?_
 refine K7f hc 2 [(1,sL aCtx1),(3,.ra 1 0),(5,.ra 2 0),(7,I a3),(29,.bool (decide (a3 < 0)))] ?_
 refine ic h (fun a5 h => ?_) fun a5 h => ?_
 ·refine rs0 hc 1 [(6,.bool true)] [] ?_
  refine rt ?_
  obtain rfl := os h
  exact rq [true]
 refine sk ?_
 obtain ⟨a6,a7,h⟩ := Qdd h
 refine rss hc none [oN,oN,oc (I a6),oN] [(1,sL aCtx1),(3,.ra 1 0),(5,.ra 2 0),(7,I a6)] (cq (K85 _ _ a7) K33 tv) ?_
 refine sN ?_
 refine K7f hc 2 [(1,sL aCtx1),(3,.ra 1 0),(5,.ra 2 0),(34,.bool (decide (a6 < 0)))] ?_
 refine ic h (fun a8 h => ?_) fun a8 h => ?_
 ·refine rs0 hc 1 [(6,.bool true)] [] ?_
  refine rt ?_
  obtain rfl := os h
  exact rq [true]
 refine sk ?_
 obtain ⟨a9,b1,b2,b3,b4,b5,⟨b6,b7⟩,b8,h⟩ := bq4 h
 refine rss hc Knr [oN,some (.call (K23 a9) [] 3),oN,some (.call (.osl (List.map K16 b2)) [] 6),oN,some (.call (K25 b4) [] 7),some (.call (.tup [I b6,sI b7]) [.tup []] 1),oN,oN,oN,oN,oN] [(1,sL aCtx1),(3,.ra 1 0),(5,.ra 2 0),(8,I b6),(9,sI b7)] (cq (K8o _ _ b1) K36 (cq (K8v _ _ b3) K37 (cq (K94 _ _ b5) K39 (ab (Q71.args (A1 := [K24 a9,.sl (Q02 (List.map K16 b2)),K26 b4]) (A2 := [K1u a9,sL b2,K1w b4]) (by simp only [K24,K26,List.map_nil,Qe7,K1g,Qe5,K1a]) (Key _ _ b8)) K53 tv)))) ?_
 obtain ⟨b9,c0,h⟩ := Qdd h
 refine rs hc none [oN,some (.call (K23 b9) [] 9),some (.new 12),oN] [(1,sL aCtx1),(3,.ra 1 0),(5,.ra 2 0),(8,I b6),(9,sI b7),(10,.ra 12 0)] [(1,K1t aS0),(2,K1v aT2),(9,rI b9.fPlus),(10,rI b9.fTimes),(11,.arr (List.map AV.bool b9.fBelow)),(12,.box [I b9.fSize,.rs 9,.rs 10,.rs 11])] (cq (K8o _ _ c0) K36 tv) ?_
 obtain ⟨c1,c2,h⟩ := Qdd h
 refine rs hc none [oN,some (.call (.osl (List.map K16 c1)) [] 13),oN] [(1,sL aCtx1),(3,.ra 1 0),(5,.ra 2 0),(8,I b6),(9,sI b7),(10,.ra 12 0),(11,.rs 13)] [(1,K1t aS0),(2,K1v aT2),(9,rI b9.fPlus),(10,rI b9.fTimes),(11,.arr (List.map AV.bool b9.fBelow)),(12,.box [I b9.fSize,.rs 9,.rs 10,.rs 11]),(13,.arr (List.map K16 c1))] (cq (K8v _ _ c2) K37 tv) ?_
 obtain ⟨c3,c4,h⟩ := Qdd h
 refine rs hc none [oN,some (.call (K25 c3) [] 14),some (.new 16),oN] [(1,sL aCtx1),(3,.ra 1 0),(5,.ra 2 0),(8,I b6),(9,sI b7),(10,.ra 12 0),(11,.rs 13),(12,.ra 16 0)] [(1,K1t aS0),(2,K1v aT2),(9,rI b9.fPlus),(10,rI b9.fTimes),(11,.arr (List.map AV.bool b9.fBelow)),(12,.box [I b9.fSize,.rs 9,.rs 10,.rs 11]),(13,.arr (List.map K16 c1)),(14,rI c3.fType),(15,.arr (List.map K0k c3.fKids)),(16,.box [I c3.fOp,I c3.fN,.rs 14,.rs 15])] (cq (K94 _ _ c4) K39 tv) ?_
 obtain ⟨⟨c5,c6⟩,c7,h⟩ := Qdd h
 refine rs hc none [oN,oN,oN,some (.call (.tup [I c5,oI c6]) [] 17),oN,oN,oN,oN,oN] [(1,sL aCtx1),(3,.ra 1 0),(5,.ra 2 0),(8,I b6),(9,sI b7),(10,.ra 12 0),(11,.rs 13),(12,.ra 16 0),(13,I c5),(14,.rs 17)] [(1,K1t aS0),(2,K1v aT2),(9,rI b9.fPlus),(10,rI b9.fTimes),(11,.arr (List.map AV.bool b9.fBelow)),(12,.box [I b9.fSize,.rs 9,.rs 10,.rs 11]),(13,.arr (List.map K16 c1)),(14,rI c3.fType),(15,.arr (List.map K0k c3.fKids)),(16,.box [I c3.fOp,I c3.fN,.rs 14,.rs 15]),(17,rI c6)] (ac (Q71.args (A1 := [K24 b9,.sl (Q02 (List.map K16 c1)),K26 c3]) (A2 := [K1u b9,sL c1,K1w c3]) (by simp only [K24,K26,List.map_nil,Qe7,K1g,Qe5,K1a]) (Kll _ _ c7)) K6z (Or.inr (Qef rfl (Qef (Qed Qe9 c6) rfl)) : ([9,10,11,13,14,15] : List Nat) = [] ∨ noSh (.tup [I c5,oI c6]) = true) tv) ?_
 refine sN ?_
 refine sN ?_
 obtain ⟨c8,c9,h⟩ := Qdd h
 refine Wp.into (x := .normal) (mkS [(1,sL aCtx1),(3,.ra 1 0),(5,.ra 2 0),(8,I b6),(9,sI b7),(10,.ra 12 0),(11,.rs 13),(12,.ra 16 0),(13,I c5),(14,.rs 17),(66,.bool c8)] [(1,K1t aS0),(2,K1v aT2),(9,rI b9.fPlus),(10,rI b9.fTimes),(11,.arr (List.map AV.bool b9.fBelow)),(12,.box [I b9.fSize,.rs 9,.rs 10,.rs 11]),(13,.arr (List.map K16 c1)),(14,rI c3.fType),(15,.arr (List.map K0k c3.fKids)),(16,.box [I c3.fOp,I c3.fN,.rs 14,.rs 15]),(17,rI c6)]) ?_ ?_
 ·replace h := c9
  rcases is h with ⟨d0,h⟩ | ⟨d0,h⟩
  ·refine rgs hc none [oN,oN,oN,oN,o_,o_,o_,o_,oT] [(1,sL aCtx1),(3,.ra 1 0),(5,.ra 2 0),(8,I b6),(9,sI b7),(10,.ra 12 0),(11,.rs 13),(12,.ra 16 0),(13,I c5),(14,.rs 17),(66,.bool true)] (ar 4 (neF d0) (ai d0 tv)) ?_
   obtain rfl := os h
   exact Qcz.mk
  obtain ⟨d1,d2,h⟩ := Qdd h
  refine rgs hc none [oN,oN,oN,oN,oN,oN,oc (.bool d1),oN,oF] [(1,sL aCtx1),(3,.ra 1 0),(5,.ra 2 0),(8,I b6),(9,sI b7),(10,.ra 12 0),(11,.rs 13),(12,.ra 16 0),(13,I c5),(14,.rs 17),(66,.bool (!d1))] (ar 3 d0 (ac (Q71.args (A1 := [.sl (Q02 (List.map I c6)),sI b7]) (A2 := [sI c6,sI b7]) (by simp only [List.map_nil,Qe5]) (Kls _ _ d2)) K70 (Or.inr rfl : ([17] : List Nat) = [] ∨ noSh (.bool d1) = true) (ar 2 d0 tv))) ?_
  obtain rfl := os h
  exact Qcz.mk
 clear c9
 refine ic h (fun d3 h => ?_) fun d3 h => ?_
 ·refine rs0 hc 1 [(6,.bool false)] [] ?_
  refine rt ?_
  obtain rfl := os h
  exact rq [true]
 refine sk ?_
 refine sN ?_
 obtain ⟨d4,d5,d6,d7,h⟩ := bq2 h
 refine rss hc Kns [oN,oN,some (.call (K23 d4) [] 18),oc (.bool d6),oN] [(1,sL aCtx1),(3,.ra 1 0),(5,.ra 2 0),(8,I b6),(9,sI b7),(10,.ra 12 0),(11,.rs 13),(12,.ra 16 0),(13,I c5),(14,.rs 17),(71,.bool (!d6))] (cq (K8o _ _ d5) K36 (ac (Q71.args (A1 := [K24 b9,K24 d4]) (A2 := [K1u b9,K1u d4]) (by simp only [K24,List.map_nil,Qe7,Qe5]) (Km2 _ _ d7)) K72 (Or.inr rfl : ([9,10,11,18,19,20] : List Nat) = [] ∨ noSh (.bool d6) = true) tv)) ?_
 rcases is h with ⟨d8,h⟩ | ⟨d8,h⟩
 ·refine cF (!d6) (nF d8) ?_
  refine sk ?_
  refine sN ?_
  obtain ⟨d9,e0,e1,e2,h⟩ := bq2 h
  refine rss hc none [oN,oN,some (.call (.osl (List.map K16 d9)) [] 21),oc (.bool e1),oN] [(1,sL aCtx1),(3,.ra 1 0),(5,.ra 2 0),(8,I b6),(9,sI b7),(10,.ra 12 0),(11,.rs 13),(12,.ra 16 0),(13,I c5),(14,.rs 17),(76,.bool (!e1))] (cq (K8v _ _ e0) K37 (ac (Q71.args (A1 := [.sl (Q02 (List.map K16 c1)),.sl (Q02 (List.map K16 d9))]) (A2 := [sL c1,sL d9]) (by simp only [List.map_nil,K1a]) (Km9 _ _ e2)) K73 (Or.inr rfl : ([13,21] : List Nat) = [] ∨ noSh (.bool e1) = true) tv)) ?_
  rcases is h with ⟨e3,h⟩ | ⟨e3,h⟩
  ·refine cF (!e1) (nF e3) ?_
   refine sk ?_
   refine sN ?_
   obtain ⟨e4,e5,e6,e7,h⟩ := bq2 h
   refine rss hc Kns [oN,oN,some (.call (K25 e4) [] 22),oc (.bool e6),oN] [(1,sL aCtx1),(3,.ra 1 0),(5,.ra 2 0),(8,I b6),(9,sI b7),(10,.ra 12 0),(11,.rs 13),(12,.ra 16 0),(13,I c5),(14,.rs 17),(81,.bool (!e6))] (cq (K94 _ _ e5) K39 (ac (Q71.args (A1 := [K26 c3,K26 e4]) (A2 := [K1w c3,K1w e4]) (by simp only [K26,List.map_nil,K1g,Qe5]) (Kmi _ _ e7)) K75 (Or.inr rfl : ([14,15,22,23] : List Nat) = [] ∨ noSh (.bool e6) = true) tv)) ?_
   rcases is h with ⟨e8,h⟩ | ⟨e8,h⟩
   ·refine cF (!e6) (nF e8) ?_
    refine sk ?_
    refine K7f hc 1 [(1,sL aCtx1),(3,.ra 1 0),(5,.ra 2 0),(8,I b6),(9,sI b7),(10,.ra 12 0),(11,.rs 13),(12,.ra 16 0),(13,I c5),(14,.rs 17),(15,I 1)] ?_
    obtain ⟨⟨e9,f0⟩,f1,h⟩ := Qdd h
    refine rs hc none [oN,oN,some (.call (I e9) [.agg [.undef,oI f0.fPlus,oI f0.fTimes,.osl (List.map AV.bool f0.fBelow)],.undef] 1),oN] [(1,sL aCtx1),(3,.ra 1 0),(5,.ra 2 0),(8,I b6),(9,sI b7),(11,.rs 13),(12,.ra 16 0),(13,I c5),(14,.rs 17),(15,I e9)] [(1,K1t aS0),(2,K1v aT2),(13,.arr (List.map K16 c1)),(14,rI c3.fType),(15,.arr (List.map K0k c3.fKids)),(16,.box [I c3.fOp,I c3.fN,.rs 14,.rs 15]),(17,rI c6)] (ab (Kn1 _ _ f1) K78 tv) ?_
    obtain ⟨⟨f2,f3⟩,f4,h⟩ := Qdd h
    refine rs hc none [oN,oN,some (.call (I f2) [.osl (List.map K16 f3),.undef] 1),oN] [(1,sL aCtx1),(3,.ra 1 0),(5,.ra 2 0),(8,I b6),(9,sI b7),(12,.ra 16 0),(13,I c5),(14,.rs 17),(15,I f2)] [(1,K1t aS0),(2,K1v aT2),(14,rI c3.fType),(15,.arr (List.map K0k c3.fKids)),(16,.box [I c3.fOp,I c3.fN,.rs 14,.rs 15]),(17,rI c6)] (ab (Kn8 _ _ f4) K79 tv) ?_
    obtain ⟨⟨f6,f7⟩,f8,h⟩ := Qdd h
    refine rs hc none [oN,oN,some (.call (I f6) [.agg [.undef,.undef,oI f7.fType,.osl (List.map K0k f7.fKids)],.undef] 1),oN] [(1,sL aCtx1),(3,.ra 1 0),(5,.ra 2 0),(8,I b6),(9,sI b7),(13,I c5),(14,.rs 17),(15,I f6)] [(1,K1t aS0),(2,K1v aT2),(17,rI c6)] (ab (Knj _ _ f8) K7b tv) ?_
    refine sN ?_
    refine sN ?_
    obtain ⟨f9,g0,h⟩ := Qdd h
    refine Wp.into (x := .normal) (mkS [(1,sL aCtx1),(3,.ra 1 0),(5,.ra 2 0),(8,I b6),(9,sI b7),(14,.rs 17),(103,.bool f9)] [(1,K1t aS0),(2,K1v aT2),(17,rI c6)]) ?_ ?_
    ·replace h := g0
     rcases is h with ⟨g1,h⟩ | ⟨g1,h⟩
     ·refine rgs hc none [oN,oN,oN,o_,o_,o_,oT,oN,o_,o_,o_,o_,oT] [(1,sL aCtx1),(3,.ra 1 0),(5,.ra 2 0),(8,I b6),(9,sI b7),(14,.rs 17),(103,.bool true)] (ar 3 (neF g1) (ai g1 (ar 4 nf (ai tt tv)))) ?_
      obtain rfl := os h
      exact Qcz.mk
     rcases is h with ⟨g2,h⟩ | ⟨g2,h⟩
     ·refine rgs hc none [oN,oN,oN,oN,oN,oN,oF,oN,o_,o_,o_,o_,oT] [(1,sL aCtx1),(3,.ra 1 0),(5,.ra 2 0),(8,I b6),(9,sI b7),(14,.rs 17),(103,.bool true)] (ar 4 g1 (ar 4 (neF g2) (ai g2 tv))) ?_
      obtain rfl := os h
      exact Qcz.mk
     obtain ⟨g3,g4,h⟩ := Qdd h
     refine rgs hc none [oN,oN,oN,oN,oN,oN,oF,oN,oN,oN,oc (.bool g3),oN,oF] [(1,sL aCtx1),(3,.ra 1 0),(5,.ra 2 0),(8,I b6),(9,sI b7),(14,.rs 17),(103,.bool (!g3))] (ar 4 g1 (ar 3 g2 (ac (Q71.args (A1 := [.sl (Q02 (List.map I c6)),sI b7]) (A2 := [sI c6,sI b7]) (by simp only [List.map_nil,Qe5]) (Kls _ _ g4)) K70 (Or.inr rfl : ([17] : List Nat) = [] ∨ noSh (.bool g3) = true) (ar 2 g2 tv)))) ?_
     obtain rfl := os h
     exact Qcz.mk
    clear g0
    refine ic h (fun g5 h => ?_) fun g5 h => ?_
    ·refine rs0 hc 1 [(6,.bool false)] [] ?_
     refine rt ?_
     obtain rfl := os h
     exact rq [true]
    refine sk ?_
    refine K7f hc 1 [(1,sL aCtx1),(3,.ra 1 0),(5,.ra 2 0),(8,I b6),(9,sI b7),(14,.rs 17),(16,I 1)] ?_
    obtain ⟨⟨g6,g7⟩,g8,h⟩ := Qdd h
    refine rs hc none [oN,oN,some (.call (I g6) [oI g7,.undef] 1),oN] [(1,sL aCtx1),(3,.ra 1 0),(5,.ra 2 0),(8,I b6),(9,sI b7),(14,.rs 17),(16,I g6)] [(1,K1t aS0),(2,K1v aT2),(17,rI g7)] (ab (Kmr _ _ g8) K76 tv) ?_
    refine K7f hc 1 [(1,sL aCtx1),(3,.ra 1 0),(5,.ra 2 0),(8,I b6),(9,sI b7),(14,.rs 17),(16,I g6),(17,I 1)] ?_
    obtain ⟨g9,i0,h⟩ := Qdd h
    refine rss hc none [oN,oN,oc (I g9),oN] [(1,sL aCtx1),(3,.ra 1 0),(5,.ra 2 0),(8,I b6),(9,sI b7),(14,.rs 17),(16,I g6),(17,I g9)] (ac (Q71.args (A1 := [.sl (Q02 (List.map I g7)),I 1]) (A2 := [sI g7,I 1]) (by simp only [List.map_nil,Qe5]) (Knq _ _ i0)) K7c (Or.inr rfl : ([17] : List Nat) = [] ∨ noSh (I g9) = true) tv) ?_
    refine sN ?_
    refine K7f hc 2 [(1,sL aCtx1),(3,.ra 1 0),(5,.ra 2 0),(8,I b6),(9,sI b7),(14,.rs 17),(16,I g6),(17,I g9),(111,.bool (decide (g9 < 0)))] ?_
    refine ic h (fun i1 h => ?_) fun i1 h => ?_
    ·refine rs0 hc 1 [(6,.bool false)] [] ?_
     refine rt ?_
     obtain rfl := os h
     exact rq [true]
    refine sk ?_
    refine sN ?_
    refine K7f hc 3 [(1,sL aCtx1),(3,.ra 1 0),(5,.ra 2 0),(8,I b6),(9,sI b7),(14,.rs 17),(16,I g6),(114,.bool (g9 != g6))] ?_
    refine ic h (fun i2 h => ?_) fun i2 h => ?_
    ·refine rs0 hc 1 [(6,.bool false)] [] ?_
     refine rt ?_
     obtain rfl := os h
     exact rq [true]
    refine sk ?_
    obtain ⟨i3,i4,i5,i6,i7,i8,⟨i9,j0⟩,j8,h⟩ := bq4 h
    refine rs hc Knr [oN,some (.call (K23 i3) [] 24),oN,some (.call (.osl (List.map K16 i5)) [] 27),oN,some (.call (K25 i7) [] 28),some (.call (.tup [I i9,oI j0]) [] 30),oN,oN,oN,oN,oN] [(8,I b6),(9,sI b7),(14,.rs 17),(16,I g6),(18,I i9),(19,.rs 30)] [(17,rI g7),(30,rI j0)] (cq (K8o _ _ i4) K36 (cq (K8v _ _ i6) K37 (cq (K94 _ _ i8) K39 (ac (Q71.args (A1 := [K24 i3,.sl (Q02 (List.map K16 i5)),K26 i7]) (A2 := [K1u i3,sL i5,K1w i7]) (by simp only [K24,K26,List.map_nil,Qe7,K1g,Qe5,K1a]) (Kll _ _ j8)) K6z (Or.inr (Qef rfl (Qef (Qed Qe9 j0) rfl)) : ([24,25,26,27,28,29] : List Nat) = [] ∨ noSh (.tup [I i9,oI j0]) = true) tv)))) ?_
    refine sN ?_
    refine sN ?_
    obtain ⟨j9,k0,h⟩ := Qdd h
    refine Wp.into (x := .normal) (mkS [(14,.rs 17),(16,I g6),(133,.bool j9)] [(17,rI g7)]) ?_ ?_
    ·replace h := k0
     rcases is h with ⟨k1,h⟩ | ⟨k1,h⟩
     ·refine rg hc none [oN,oN,oN,oN,o_,o_,o_,o_,oT] [(14,.rs 17),(16,I g6),(133,.bool true)] [(17,rI g7)] (ar 4 (neF k1) (ai k1 tv)) ?_
      obtain rfl := os h
      exact Qcz.mk
     obtain ⟨k2,k3,h⟩ := Qdd h
     refine rg hc none [oN,oN,oN,oN,oN,oN,oc (.bool k2),oN,oF] [(14,.rs 17),(16,I g6),(133,.bool (!k2))] [(17,rI g7)] (ar 3 k1 (ac (Q71.args (A1 := [.sl (Q02 (List.map I j0)),sI b7]) (A2 := [sI j0,sI b7]) (by simp only [List.map_nil,Qe5]) (Kls _ _ k3)) K70 (Or.inr rfl : ([30] : List Nat) = [] ∨ noSh (.bool k2) = true) (ar 2 k1 tv))) ?_
     obtain rfl := os h
     exact Qcz.mk
    clear k0
    refine ic h (fun k4 h => ?_) fun k4 h => ?_
    ·refine rs0 hc 1 [(6,.bool false)] [] ?_
     refine rt ?_
     obtain rfl := os h
     exact rq [true]
    refine sk ?_
    refine K7f hc 1 [(14,.rs 17),(16,I g6),(17,I 1)] ?_
    obtain ⟨k5,k6,h⟩ := Qdd h
    refine rs hc none [oN,oN,oc (I k5),oN] [(16,I g6),(17,I k5)] [] (ac (Q71.args (A1 := [.sl (Q02 (List.map I g7)),I 1]) (A2 := [sI g7,I 1]) (by simp only [List.map_nil,Qe5]) (Knq _ _ k6)) K7c (Or.inr rfl : ([17] : List Nat) = [] ∨ noSh (I k5) = true) tv) ?_
    refine sN ?_
    refine rs0 hc 2 [(16,I g6),(17,I k5),(138,.bool (decide (k5 < 0)))] [] ?_
    refine ic h (fun k7 h => ?_) fun k7 h => ?_
    ·refine rs0 hc 1 [(6,.bool false)] [] ?_
     refine rt ?_
     obtain rfl := os h
     exact rq [true]
    refine sk ?_
    refine sN ?_
    refine rs0 hc 3 [(141,.bool (k5 != g6))] [] ?_
    refine ic h (fun k8 h => ?_) fun k8 h => ?_
    ·refine rs0 hc 1 [(6,.bool false)] [] ?_
     refine rt ?_
     obtain rfl := os h
     exact rq [true]
    refine sk ?_
    refine rs0 hc 1 [(6,.bool true)] [] ?_
    refine rt ?_
    obtain rfl := os h
    exact rq [true]
   refine cT (!e6) (nT e8) ?_
   refine rs0 hc 1 [(6,.bool false)] [] ?_
   refine rt ?_
   obtain rfl := os h
   exact rq [true]
  refine cT (!e1) (nT e3) ?_
  refine rs0 hc 1 [(6,.bool false)] [] ?_
  refine rt ?_
  obtain rfl := os h
  exact rq [true]
 refine cT (!d6) (nT d8) ?_
 refine rs0 hc 1 [(6,.bool false)] [] ?_
 refine rt ?_
 obtain rfl := os h
 exact rq [true]
end Go.Am
