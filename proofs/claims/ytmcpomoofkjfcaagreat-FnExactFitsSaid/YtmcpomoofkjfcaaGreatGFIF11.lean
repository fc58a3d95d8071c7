/- Functions of the program as pure functions,and that it computes them. Printed by a program of mine (gen.py). -/
import Derived.Test.YtmcpomoofkjfcaaGreatGFIF10
set_option linter.unusedVariables false
set_option linter.unusedSimpArgs false
set_option maxRecDepth 100000
namespace Go.Am
open Go Go.Proofs
def ah11_0 : Option (List (List Nat)) := rx [[0],[1],[2],[3],[4],[5],[6],[7],[8],[9],[10],[11],[8],[8,12],[8,12,13],[8,12,13,14],[8,12,13,14,15],[8,12,13,14,15,16],[8,12,13,14,15,16,17],[8,12,13,14,15,16,17,18],[8,12,13,14,15,16,17,18,19],[8,12,13,14,15,16,17,18,19,20],[8,12,13,14,15,16,17,18,19,20,21],[8,12,13,14,15,16,17,18,19,20,21,22],[24],[25],[26]]
def ah11_1 : Option (List (List Nat)) := rx [[0],[0],[2],[3],[4],[5],[5],[5],[5,6,7],[5,6,7,8],[5],[11],[12],[13]]
def ah11_2 : Option (List (List Nat)) := rx [[0],[0],[2],[3],[0],[0],[0,4,5],[0,4,5,6],[8]]
mutual
def impl_typertyp (p : GTyper × (List (List Int)) × GTerm) : Option (GTyped) :=
 match p with
 | (p0,ctx1,t2) =>
  (chk (0 ≤ (ctx1.length : Int) ∧ (Int.toNat (ctx1.length : Int)) * 8 ≤ 140737488355328)) >>= fun _ =>
  (impl_typertyp_l0 (p0,ctx1,t2,[],[],[],0)) >>= fun fl => match fl with
  | .inl (out_44,needs_45,used_46) =>
   (impl_typerfinish (p0,(GTyped.mk [] (List.replicate (Int.toNat (ctx1.length : Int)) 0) out_44 0 []),ctx1,t2,needs_45,used_46)) >>= fun (r_24_7,o_24_7_1) =>
   if (r_24_7 != 0) = true then
    some (GTyped.mk [] [] [] r_24_7 [])
   else
    some (GTyped.mk o_24_7_1.fty o_24_7_1.fneeds o_24_7_1.fkids r_24_7 o_24_7_1.fpath)
  | .inr r =>
   some r
 partial_fixpoint
def impl_typertyp_l0 (p : GTyper × (List (List Int)) × GTerm × (List GTyped) × (List (List Int)) × (List (List Int)) × Int) : Option (((List GTyped) × (List (List Int)) × (List (List Int))) ⊕ (GTyped)) :=
 match p with
 | (p0,ctx1,t2,out_27,needs_28,used_29,w_12) =>
  if (decide (w_12 < (t2.fKids.length : Int))) = true then
   (idx t2.fKids w_12) >>= fun e_6_1 =>
   ((
    if (decide (w_12 > 0)) = true then
     some (true)
    else
     some ((t2.fOp == 9))
   ) : Option (Bool)) >>= fun v_31 =>
   ((
    if v_31 = true then
     ((
      if (decide (w_12 > 0)) = true then
       (idx out_27 0) >>= fun e_11_4 =>
       some (e_11_4.fty)
      else
       some ([])
     ) : Option ((List Int))) >>= fun first_35 =>
     (impl_added (t2,w_12,first_35)) >>= fun r_12_3 =>
     some (r_12_3)
    else
     some ([])
   ) : Option ((List (List Int)))) >>= fun more_37 =>
   (slices_Concat_Lint [more_37,ctx1]) >>= fun r_13_4 =>
   (impl_typertyp (p0,r_13_4,e_6_1)) >>= fun r_13_6 =>
   if (r_13_6.ffault != 0) = true then
    (fits ([w_12].length + r_13_6.fpath.length) 8) >>= fun _ =>
    some (.inr (GTyped.mk [] [] [] r_13_6.ffault ([w_12] ++ r_13_6.fpath)))
   else
    (impl_typerfirstOk (p0,t2,w_12,r_13_6.fty)) >>= fun r_16_7 =>
    if (r_16_7 != 0) = true then
     some (.inr (GTyped.mk [] [] [] r_16_7 []))
    else
     ((
      if (t2.fOp == 10) = true then
       if (w_12 == 1) = true then
        (idx out_27 0) >>= fun e_19_16 =>
        (impl_parts e_19_16.fty) >>= fun r_19_21 =>
        (idx r_19_21 0) >>= fun e_19_22 =>
        (slices_Equal_int (r_13_6.fty,e_19_22)) >>= fun r_19_24 =>
        some ((!r_19_24))
       else
        some (false)
      else
       some (false)
     ) : Option (Bool)) >>= fun v_41 =>
     if v_41 = true then
      some (.inr (GTyped.mk [] [] [] 3 []))
     else
      (fits (out_27.length + [r_13_6].length) 8) >>= fun _ =>
      (cut r_13_6.fneeds none (some (more_37.length : Int)) none) >>= fun c_22_7 =>
      (fits (used_29.length + [c_22_7].length) 24) >>= fun _ =>
      (cut r_13_6.fneeds (some (more_37.length : Int)) none none) >>= fun c_22_17 =>
      (fits (needs_28.length + [c_22_17].length) 24) >>= fun _ =>
      impl_typertyp_l0 (p0,ctx1,t2,(out_27 ++ [r_13_6]),(needs_28 ++ [c_22_17]),(used_29 ++ [c_22_7]),(wr (w_12 + 1)))
  else
   some (.inl (out_27,needs_28,used_29))
 partial_fixpoint
end
def M_impl_typertyp (p : GTyper × (List (List Int)) × GTerm) (r : GTyped) : Prop :=
 match p with
 | (p0,ctx1,t2) => FnSound Tryz.prog 156 [aTyper p0,sL ctx1,aTerm t2] (.ptr [sI r.fty,sI r.fneeds,.sl (List.map PGTyped_S r.fkids),I r.ffault,sI r.fpath] 0) []
def M_impl_typertyp_l0 (p : GTyper × (List (List Int)) × GTerm × (List GTyped) × (List (List Int)) × (List (List Int)) × Int) (fl : ((List GTyped) × (List (List Int)) × (List (List Int))) ⊕ (GTyped)) : Prop :=
 match p with
 | (p0,ctx1,t2,out_27,needs_28,used_29,w_12) => ∀ c : Ctx,c.nt = 171 → WpL Tryz.prog c (cl (cl (cr (cl (cr (cr (cr (cr B156)))))))) (impl_typertyp_F1 c p0 ctx1 t2 fl) (mkS [(1,sL ctx1),(3,.ra 1 0),(5,.ra 2 0),(7,.ra 4 0),(8,.rs 21),(9,.rs 22),(22,.sl (List.map GTerm_S t2.fKids)),(23,I (t2.fKids.length : Int)),(24,I w_12)] [(1,bTyper p0),(2,bTerm t2),(3,.arr (List.map I (List.replicate (Int.toNat (ctx1.length : Int)) 0))),(4,.box [.nils,.rs 3,.rs 20,I 0,.nils]),(20,.arr (List.map PGTyped_S out_27)),(21,.arr (List.map LI_s needs_28)),(22,.arr (List.map LI_s used_29))])
theorem impl_typertyp_all : (∀ p r,impl_typertyp p = some r → M_impl_typertyp p r) ∧ (∀ p r,impl_typertyp_l0 p = some r → M_impl_typertyp_l0 p r) := by
 refine impl_typertyp.mutual_partial_correctness M_impl_typertyp M_impl_typertyp_l0 ?_ ?_
 ·rintro impl_typertyp_l0_f impl_typertyp_l0_ih ⟨p0,ctx1,t2⟩ r h
  refine b0 Tryz.f156 B156 171 [(0,aTyper p0),(1,sL ctx1),(2,aTerm t2)] fun c hc => ?_
  refine rs hc none [some (.new 1),some (.new 2),oN] [(1,sL ctx1),(3,.ra 1 0),(5,.ra 2 0)] [(1,bTyper p0),(2,bTerm t2)] trivial ?_
  obtain ⟨_,hk_1_2,h⟩ := bsome h
  refine rs hc none [oN,some (.eqv (.no) ⟨[(17,I (ctx1.length : Int))],[],[]⟩),some (.eqv (.mk 3 true) ⟨[(18,.rs 3)],[(3,some (.arr (List.map I (List.replicate (Int.toNat (ctx1.length : Int)) 0))))],[3]⟩),oN,some (.new 4),oN] [(1,sL ctx1),(3,.ra 1 0),(5,.ra 2 0),(7,.ra 4 0)] [(1,bTyper p0),(2,bTerm t2),(3,.arr (List.map I (List.replicate (Int.toNat (ctx1.length : Int)) 0))),(4,.box [.nils,.rs 3,.nils,I 0,.nils])] (ai (lenT (d := 17) LI_s ctx1) (ai (congrArg (fun z => (⟨[(18,.rs 3)],[(3,some (.arr z))],[3]⟩ : Wr)) (rep_row (enc := I) (n := Int.toNat (ctx1.length : Int)) (x := I 0) (eq_I 0))) (ai (And.intro (Eq.refl (ctx1.length : Int)) (chk_of hk_1_2)) trivial))) ?_
  refine rs0 hc 1 [(1,sL ctx1),(3,.ra 1 0),(5,.ra 2 0),(7,.ra 4 0),(8,.nils)] [(1,bTyper p0),(2,bTerm t2),(3,.arr (List.map I (List.replicate (Int.toNat (ctx1.length : Int)) 0))),(4,.box [.nils,.rs 3,.nils,I 0,.nils])] ?_
  refine rs0 hc 1 [(1,sL ctx1),(3,.ra 1 0),(5,.ra 2 0),(7,.ra 4 0),(8,.nils),(9,.nils)] [(1,bTyper p0),(2,bTerm t2),(3,.arr (List.map I (List.replicate (Int.toNat (ctx1.length : Int)) 0))),(4,.box [.nils,.rs 3,.nils,I 0,.nils])] ?_
  refine sN ?_
  refine rs hc none [oN,oN,some (.eqv (.no) ⟨[(23,I (t2.fKids.length : Int))],[],[]⟩),oN] [(1,sL ctx1),(3,.ra 1 0),(5,.ra 2 0),(7,.ra 4 0),(8,.nils),(9,.nils),(22,.sl (List.map GTerm_S t2.fKids)),(23,I (t2.fKids.length : Int)),(24,I 0)] [(1,bTyper p0),(2,bTerm t2),(3,.arr (List.map I (List.replicate (Int.toNat (ctx1.length : Int)) 0))),(4,.box [.nils,.rs 3,.nils,I 0,.nils])] (ai (lenT (d := 23) GTerm_S t2.fKids) trivial) ?_
  refine bk 0 ?_
  obtain ⟨fl,hl_47,h⟩ := bsome h
  have hL := impl_typertyp_l0_ih _ _ hl_47 c hc
  refine Wp.loopN (by kernel_rfl) (WpL.view (fun a w hv => SRx.renL [(20,57),(21,58),(22,59)] (SRx.nilTL 9 59 (SRx.nilTL 8 58 (SRx.nilBL 4 2 57 [.nils,.rs 3,.nils,I 0,.nils] hv (by kernel_rfl) (by kernel_rfl) (by kernel_rfl)) (by kernel_rfl) (by kernel_rfl)) (by kernel_rfl) (by kernel_rfl)) (by kernel_rfl) (by kernel_rfl) (by kernel_rfl)) (?_ : WpL _ c _ _ (mkS [(1,sL ctx1),(3,.ra 1 0),(5,.ra 2 0),(7,.ra 4 0),(8,.rs 21),(9,.rs 22),(22,.sl (List.map GTerm_S t2.fKids)),(23,I (t2.fKids.length : Int)),(24,I 0)] [(1,bTyper p0),(2,bTerm t2),(3,.arr (List.map I (List.replicate (Int.toNat (ctx1.length : Int)) 0))),(4,.box [.nils,.rs 3,.rs 20,I 0,.nils]),(20,.arr (List.map PGTyped_S [])),(21,.arr (List.map LI_s [])),(22,.arr (List.map LI_s []))])))
  rcases fl with ⟨out_44,needs_45,used_46⟩ | r
  ·refine WpL.into (e := (.exit 0)) (mkS [(1,sL ctx1),(3,.ra 1 0),(5,.ra 2 0),(7,.ra 4 0),(8,.rs 21),(9,.rs 22)] [(1,bTyper p0),(2,bTerm t2),(3,.arr (List.map I (List.replicate (Int.toNat (ctx1.length : Int)) 0))),(4,.box [.nils,.rs 3,.rs 20,I 0,.nils]),(20,.arr (List.map PGTyped_S out_44)),(21,.arr (List.map LI_s needs_45)),(22,.arr (List.map LI_s used_46))]) hL ?_
   refine blockQ_hit ?_
   refine sN ?_
   refine vz 21 (sh_LI_s needs_45) [(1,sL ctx1),(3,.ra 1 0),(5,.ra 2 0),(7,.ra 4 0),(8,sL needs_45),(9,.rs 22)] [(1,bTyper p0),(2,bTerm t2),(3,.arr (List.map I (List.replicate (Int.toNat (ctx1.length : Int)) 0))),(4,.box [.nils,.rs 3,.rs 20,I 0,.nils]),(20,.arr (List.map PGTyped_S out_44)),(22,.arr (List.map LI_s used_46))] ?_
   refine vz 22 (sh_LI_s used_46) [(1,sL ctx1),(3,.ra 1 0),(5,.ra 2 0),(7,.ra 4 0),(8,sL needs_45),(9,sL used_46)] [(1,bTyper p0),(2,bTerm t2),(3,.arr (List.map I (List.replicate (Int.toNat (ctx1.length : Int)) 0))),(4,.box [.nils,.rs 3,.rs 20,I 0,.nils]),(20,.arr (List.map PGTyped_S out_44))] ?_
   obtain ⟨⟨r_24_7,o_24_7_1⟩,hr_24_7,h⟩ := bsome h
   refine rg hc none [oN,oN,oN,oN,oN,oN,oN,some (.call (I r_24_7) [.undef,.optr [sI o_24_7_1.fty,sI o_24_7_1.fneeds,.sl (List.map PGTyped_S o_24_7_1.fkids),I o_24_7_1.ffault,sI o_24_7_1.fpath],.undef,.undef,.undef,.undef] 1),oN,oN,oN] [(7,.ra 4 0)] [(4,.box [sI o_24_7_1.fty,sI o_24_7_1.fneeds,.sl (List.map PGTyped_S o_24_7_1.fkids),I r_24_7,sI o_24_7_1.fpath])] (ai (impl_typerfinish_s _ _ hr_24_7) (ai bod_179 trivial)) ?_
   refine sN ?_
   refine rs0 hc 5 [(7,.ra 4 0),(163,.bool (r_24_7 != 0))] [(4,.box [sI o_24_7_1.fty,sI o_24_7_1.fneeds,.sl (List.map PGTyped_S o_24_7_1.fkids),I r_24_7,sI o_24_7_1.fpath])] ?_
   rcases is h with ⟨hb_48,h⟩ | ⟨hb_48,h⟩
   ·refine cT ((r_24_7 != 0)) hb_48 ?_
    refine rs hc none [oN,oN,oN,oN,oN,some (.new 60),oN] [(6,.ra 60 0)] [(60,.box [.nils,.nils,.nils,I r_24_7,.nils])] trivial ?_
    refine vb 60 [.nils,.nils,.nils,I r_24_7,.nils] [(6,.ptr [.sl (List.map I []),.sl (List.map I []),.sl (List.map PGTyped_S []),I r_24_7,.sl (List.map I [])] 0)] [] ?_
    refine rt ?_
    obtain rfl := os h
    exact rq [false]
   refine cF ((r_24_7 != 0)) hb_48 ?_
   refine sk ?_
   refine rs0 hc 2 [(6,.ra 4 0)] [(4,.box [sI o_24_7_1.fty,sI o_24_7_1.fneeds,.sl (List.map PGTyped_S o_24_7_1.fkids),I r_24_7,sI o_24_7_1.fpath])] ?_
   refine vb 4 [sI o_24_7_1.fty,sI o_24_7_1.fneeds,.sl (List.map PGTyped_S o_24_7_1.fkids),I r_24_7,sI o_24_7_1.fpath] [(6,.ptr [sI o_24_7_1.fty,sI o_24_7_1.fneeds,.sl (List.map PGTyped_S o_24_7_1.fkids),I r_24_7,sI o_24_7_1.fpath] 0)] [] ?_
   refine rt ?_
   obtain rfl := os h
   exact rq [false]
  refine WpL.mono hL ?_
  rintro _ _ ⟨rfl,hfin⟩
  obtain rfl := os h
  exact ⟨.inl rfl,hfin⟩
 ·rintro impl_typertyp_f impl_typertyp_l0_f impl_typertyp_ih impl_typertyp_l0_ih ⟨p0,ctx1,t2,out_27,needs_28,used_29,w_12⟩ r h
  intro c hc
  refine WpL.step ?_
  refine rs0 hc 1 [(1,sL ctx1),(3,.ra 1 0),(5,.ra 2 0),(7,.ra 4 0),(8,.rs 21),(9,.rs 22),(22,.sl (List.map GTerm_S t2.fKids)),(23,I (t2.fKids.length : Int)),(24,I w_12),(25,.bool (decide (w_12 < (t2.fKids.length : Int))))] [(1,bTyper p0),(2,bTerm t2),(3,.arr (List.map I (List.replicate (Int.toNat (ctx1.length : Int)) 0))),(4,.box [.nils,.rs 3,.rs 20,I 0,.nils]),(20,.arr (List.map PGTyped_S out_27)),(21,.arr (List.map LI_s needs_28)),(22,.arr (List.map LI_s used_29))] ?_
  refine sN ?_
  rcases is h with ⟨hb_30,h⟩ | ⟨hb_30,h⟩
  ·refine cT ((decide (w_12 < (t2.fKids.length : Int)))) hb_30 ?_
   refine sk ?_
   refine sN ?_
   refine bk 1 ?_
   obtain ⟨e_6_1,hi_6_1,h⟩ := bsome h
   refine rs hc none [oN,some (.el (aTerm e_6_1)),oN,some (.new 40),oN,oN] [(1,sL ctx1),(3,.ra 1 0),(5,.ra 2 0),(7,.ra 4 0),(8,.rs 21),(9,.rs 22),(10,I w_12),(11,.ra 40 0),(22,.sl (List.map GTerm_S t2.fKids)),(23,I (t2.fKids.length : Int)),(24,I w_12)] [(1,bTyper p0),(2,bTerm t2),(3,.arr (List.map I (List.replicate (Int.toNat (ctx1.length : Int)) 0))),(4,.box [.nils,.rs 3,.rs 20,I 0,.nils]),(20,.arr (List.map PGTyped_S out_27)),(21,.arr (List.map LI_s needs_28)),(22,.arr (List.map LI_s used_29)),(40,bTerm e_6_1)] (ai (idx_sl (enc := GTerm_S) (x := aTerm e_6_1) hi_6_1 (eq_GTerm_S e_6_1)) trivial) ?_
   refine rs0 hc 1 [(1,sL ctx1),(3,.ra 1 0),(5,.ra 2 0),(7,.ra 4 0),(8,.rs 21),(9,.rs 22),(10,I w_12),(11,.ra 40 0),(12,.nils),(22,.sl (List.map GTerm_S t2.fKids)),(23,I (t2.fKids.length : Int)),(24,I w_12)] [(1,bTyper p0),(2,bTerm t2),(3,.arr (List.map I (List.replicate (Int.toNat (ctx1.length : Int)) 0))),(4,.box [.nils,.rs 3,.rs 20,I 0,.nils]),(20,.arr (List.map PGTyped_S out_27)),(21,.arr (List.map LI_s needs_28)),(22,.arr (List.map LI_s used_29)),(40,bTerm e_6_1)] ?_
   refine sN ?_
   refine sN ?_
   obtain ⟨v_31,hj_32,h⟩ := bsome h
   refine Wp.into (x := .normal) (mkS [(1,sL ctx1),(3,.ra 1 0),(5,.ra 2 0),(7,.ra 4 0),(8,.rs 21),(9,.rs 22),(10,I w_12),(11,.ra 40 0),(12,.nils),(22,.sl (List.map GTerm_S t2.fKids)),(23,I (t2.fKids.length : Int)),(24,I w_12),(35,.bool v_31)] [(1,bTyper p0),(2,bTerm t2),(3,.arr (List.map I (List.replicate (Int.toNat (ctx1.length : Int)) 0))),(4,.box [.nils,.rs 3,.rs 20,I 0,.nils]),(20,.arr (List.map PGTyped_S out_27)),(21,.arr (List.map LI_s needs_28)),(22,.arr (List.map LI_s used_29)),(40,bTerm e_6_1)]) ?_ ?_
   ·replace h := hj_32
    rcases is h with ⟨hb_8_0,h⟩ | ⟨hb_8_0,h⟩
    ·refine rg hc none [oN,oN,oN,o_,o_,o_,oT] [(1,sL ctx1),(3,.ra 1 0),(5,.ra 2 0),(7,.ra 4 0),(8,.rs 21),(9,.rs 22),(10,I w_12),(11,.ra 40 0),(12,.nils),(22,.sl (List.map GTerm_S t2.fKids)),(23,I (t2.fKids.length : Int)),(24,I w_12),(35,.bool true)] [(1,bTyper p0),(2,bTerm t2),(3,.arr (List.map I (List.replicate (Int.toNat (ctx1.length : Int)) 0))),(4,.box [.nils,.rs 3,.rs 20,I 0,.nils]),(20,.arr (List.map PGTyped_S out_27)),(21,.arr (List.map LI_s needs_28)),(22,.arr (List.map LI_s used_29)),(40,bTerm e_6_1)] (ar 3 (neF hb_8_0) (ai hb_8_0 trivial)) ?_
     obtain rfl := os h
     exact Into.mk
    refine rg hc none [oN,oN,oN,oN,oN,oN,oF] [(1,sL ctx1),(3,.ra 1 0),(5,.ra 2 0),(7,.ra 4 0),(8,.rs 21),(9,.rs 22),(10,I w_12),(11,.ra 40 0),(12,.nils),(22,.sl (List.map GTerm_S t2.fKids)),(23,I (t2.fKids.length : Int)),(24,I w_12),(35,.bool (t2.fOp == 9))] [(1,bTyper p0),(2,bTerm t2),(3,.arr (List.map I (List.replicate (Int.toNat (ctx1.length : Int)) 0))),(4,.box [.nils,.rs 3,.rs 20,I 0,.nils]),(20,.arr (List.map PGTyped_S out_27)),(21,.arr (List.map LI_s needs_28)),(22,.arr (List.map LI_s used_29)),(40,bTerm e_6_1)] (ar 4 hb_8_0 trivial) ?_
    obtain rfl := os h
    exact Into.mk
   clear hj_32
   obtain ⟨more_37,hj_38,h⟩ := bsome h
   refine Wp.into (x := .normal) (mkS [(1,sL ctx1),(3,.ra 1 0),(5,.ra 2 0),(7,.ra 4 0),(8,.rs 21),(9,.rs 22),(10,I w_12),(11,.ra 40 0),(12,.rs 41),(22,.sl (List.map GTerm_S t2.fKids)),(23,I (t2.fKids.length : Int)),(24,I w_12)] [(1,bTyper p0),(2,bTerm t2),(3,.arr (List.map I (List.replicate (Int.toNat (ctx1.length : Int)) 0))),(4,.box [.nils,.rs 3,.rs 20,I 0,.nils]),(20,.arr (List.map PGTyped_S out_27)),(21,.arr (List.map LI_s needs_28)),(22,.arr (List.map LI_s used_29)),(40,bTerm e_6_1),(41,.arr (List.map LI_s more_37))]) ?_ ?_
   ·replace h := hj_38
    rcases is h with ⟨hb_33,h⟩ | ⟨hb_33,h⟩
    ·refine cT v_31 hb_33 ?_
     refine rs0 hc 1 [(1,sL ctx1),(3,.ra 1 0),(5,.ra 2 0),(7,.ra 4 0),(8,.rs 21),(9,.rs 22),(10,I w_12),(11,.ra 40 0),(13,.nils),(22,.sl (List.map GTerm_S t2.fKids)),(23,I (t2.fKids.length : Int)),(24,I w_12)] [(1,bTyper p0),(2,bTerm t2),(3,.arr (List.map I (List.replicate (Int.toNat (ctx1.length : Int)) 0))),(4,.box [.nils,.rs 3,.rs 20,I 0,.nils]),(20,.arr (List.map PGTyped_S out_27)),(21,.arr (List.map LI_s needs_28)),(22,.arr (List.map LI_s used_29)),(40,bTerm e_6_1)] ?_
     refine sN ?_
     refine rs0 hc 2 [(1,sL ctx1),(3,.ra 1 0),(5,.ra 2 0),(7,.ra 4 0),(8,.rs 21),(9,.rs 22),(10,I w_12),(11,.ra 40 0),(13,.nils),(22,.sl (List.map GTerm_S t2.fKids)),(23,I (t2.fKids.length : Int)),(24,I w_12),(37,.bool (decide (w_12 > 0)))] [(1,bTyper p0),(2,bTerm t2),(3,.arr (List.map I (List.replicate (Int.toNat (ctx1.length : Int)) 0))),(4,.box [.nils,.rs 3,.rs 20,I 0,.nils]),(20,.arr (List.map PGTyped_S out_27)),(21,.arr (List.map LI_s needs_28)),(22,.arr (List.map LI_s used_29)),(40,bTerm e_6_1)] ?_
     obtain ⟨first_35,hj_36,h⟩ := bsome h
     refine Wp.into (x := .normal) (mkS [(1,sL ctx1),(3,.ra 1 0),(5,.ra 2 0),(7,.ra 4 0),(8,.rs 21),(9,.rs 22),(10,I w_12),(11,.ra 40 0),(13,sI first_35),(22,.sl (List.map GTerm_S t2.fKids)),(23,I (t2.fKids.length : Int)),(24,I w_12)] [(1,bTyper p0),(2,bTerm t2),(3,.arr (List.map I (List.replicate (Int.toNat (ctx1.length : Int)) 0))),(4,.box [.nils,.rs 3,.rs 20,I 0,.nils]),(20,.arr (List.map PGTyped_S out_27)),(21,.arr (List.map LI_s needs_28)),(22,.arr (List.map LI_s used_29)),(40,bTerm e_6_1)]) ?_ ?_
     ·replace h := hj_36
      rcases is h with ⟨hb_34,h⟩ | ⟨hb_34,h⟩
      ·refine cT ((decide (w_12 > 0))) hb_34 ?_
       obtain ⟨e_11_4,hi_11_4,h⟩ := bsome h
       refine rg hc none [oN,oN,oN,oN,oN,some (.el (.ptr [sI e_11_4.fty,sI e_11_4.fneeds,.sl (List.map PGTyped_S e_11_4.fkids),I e_11_4.ffault,sI e_11_4.fpath] 0)),oN,oN,oN,oN] [(1,sL ctx1),(3,.ra 1 0),(5,.ra 2 0),(7,.ra 4 0),(8,.rs 21),(9,.rs 22),(10,I w_12),(11,.ra 40 0),(13,sI e_11_4.fty),(22,.sl (List.map GTerm_S t2.fKids)),(23,I (t2.fKids.length : Int)),(24,I w_12)] [(1,bTyper p0),(2,bTerm t2),(3,.arr (List.map I (List.replicate (Int.toNat (ctx1.length : Int)) 0))),(4,.box [.nils,.rs 3,.rs 20,I 0,.nils]),(20,.arr (List.map PGTyped_S out_27)),(21,.arr (List.map LI_s needs_28)),(22,.arr (List.map LI_s used_29)),(40,bTerm e_6_1)] (ai (idx_own (enc := PGTyped_S) hi_11_4) (ai (idx_sl (enc := PGTyped_S) (x := .ptr [sI e_11_4.fty,sI e_11_4.fneeds,.sl (List.map PGTyped_S e_11_4.fkids),I e_11_4.ffault,sI e_11_4.fpath] 0) hi_11_4 (eq_PGTyped_S e_11_4)).2 trivial)) ?_
       obtain rfl := os h
       exact Into.mk
      refine cF ((decide (w_12 > 0))) hb_34 ?_
      refine sk ?_
      obtain rfl := os h
      exact Into.view (fun a w hv => SRx.renL [] (SRx.nilSL 13 hv (by kernel_rfl)) (by kernel_rfl) (by kernel_rfl) (by kernel_rfl))
     clear hj_36
     obtain ⟨r_12_3,hr_12_3,h⟩ := bsome h
     refine rg hc none [oN,oN,oN,some (.call (.osl (List.map LI_s r_12_3)) [] 41),oN] [(1,sL ctx1),(3,.ra 1 0),(5,.ra 2 0),(7,.ra 4 0),(8,.rs 21),(9,.rs 22),(10,I w_12),(11,.ra 40 0),(12,.rs 41),(22,.sl (List.map GTerm_S t2.fKids)),(23,I (t2.fKids.length : Int)),(24,I w_12)] [(1,bTyper p0),(2,bTerm t2),(3,.arr (List.map I (List.replicate (Int.toNat (ctx1.length : Int)) 0))),(4,.box [.nils,.rs 3,.rs 20,I 0,.nils]),(20,.arr (List.map PGTyped_S out_27)),(21,.arr (List.map LI_s needs_28)),(22,.arr (List.map LI_s used_29)),(40,bTerm e_6_1),(41,.arr (List.map LI_s r_12_3))] (ai (impl_added_s _ _ hr_12_3) (ai bod_174 (ai (oi (.osl (List.map LI_s r_12_3))) trivial))) ?_
     obtain rfl := os h
     exact Into.mk
    refine cF v_31 hb_33 ?_
    refine sk ?_
    obtain rfl := os h
    exact Into.view (fun a w hv => SRx.renL [(41,42)] (SRx.nilTL 12 42 hv (by kernel_rfl) (by kernel_rfl)) (by kernel_rfl) (by kernel_rfl) (by kernel_rfl))
   clear hj_38
   refine sN ?_
   refine vz 41 (sh_LI_s more_37) [(1,sL ctx1),(3,.ra 1 0),(5,.ra 2 0),(7,.ra 4 0),(8,.rs 21),(9,.rs 22),(10,I w_12),(11,.ra 40 0),(12,sL more_37),(22,.sl (List.map GTerm_S t2.fKids)),(23,I (t2.fKids.length : Int)),(24,I w_12)] [(1,bTyper p0),(2,bTerm t2),(3,.arr (List.map I (List.replicate (Int.toNat (ctx1.length : Int)) 0))),(4,.box [.nils,.rs 3,.rs 20,I 0,.nils]),(20,.arr (List.map PGTyped_S out_27)),(21,.arr (List.map LI_s needs_28)),(22,.arr (List.map LI_s used_29)),(40,bTerm e_6_1)] ?_
   obtain ⟨r_13_4,hr_13_4,h⟩ := bsome h
   obtain ⟨r_13_6,hr_13_6,h⟩ := bsome h
   refine rg hc (rx [[0],[0],[0],[0,1,2],[0,1,2,3],[0],[6],[7]]) [oN,oN,oN,some (.mk 44 false),some (.call (sL r_13_4) [.tup []] 1),oN,oc (.ptr [sI r_13_6.fty,sI r_13_6.fneeds,.sl (List.map PGTyped_S r_13_6.fkids),I r_13_6.ffault,sI r_13_6.fpath] 0),oN] [(1,sL ctx1),(3,.ra 1 0),(5,.ra 2 0),(7,.ra 4 0),(8,.rs 21),(9,.rs 22),(10,I w_12),(12,sL more_37),(14,.ptr [sI r_13_6.fty,sI r_13_6.fneeds,.sl (List.map PGTyped_S r_13_6.fkids),I r_13_6.ffault,sI r_13_6.fpath] 0),(22,.sl (List.map GTerm_S t2.fKids)),(23,I (t2.fKids.length : Int)),(24,I w_12)] [(1,bTyper p0),(2,bTerm t2),(3,.arr (List.map I (List.replicate (Int.toNat (ctx1.length : Int)) 0))),(4,.box [.nils,.rs 3,.rs 20,I 0,.nils]),(20,.arr (List.map PGTyped_S out_27)),(21,.arr (List.map LI_s needs_28)),(22,.arr (List.map LI_s used_29))] (ai (FnSound.args (A1 := [.sl (shares (List.map LLI_s [more_37,ctx1]))]) (A2 := [.sl (List.map LLI_s [more_37,ctx1])]) (by simp only [sI,sB,sL,aSystem,aTerm,aL3Told,aTyped,aTyper,hSystem,hTerm,hL3Told,hTyped,hTyper,List.map_nil,sh_LLI_s]) (slices_Concat_Lint_s _ _ hr_13_4)) (ai bod_176 (ai (impl_typertyp_ih _ _ hr_13_6) (ai bod_156 (ai (oi (.ptr [sI r_13_6.fty,sI r_13_6.fneeds,.sl (List.map PGTyped_S r_13_6.fkids),I r_13_6.ffault,sI r_13_6.fpath] 0)) trivial))))) ?_
   refine sN ?_
   refine rs0 hc 5 [(1,sL ctx1),(3,.ra 1 0),(5,.ra 2 0),(7,.ra 4 0),(8,.rs 21),(9,.rs 22),(10,I w_12),(12,sL more_37),(14,.ptr [sI r_13_6.fty,sI r_13_6.fneeds,.sl (List.map PGTyped_S r_13_6.fkids),I r_13_6.ffault,sI r_13_6.fpath] 0),(22,.sl (List.map GTerm_S t2.fKids)),(23,I (t2.fKids.length : Int)),(24,I w_12),(62,.bool (r_13_6.ffault != 0))] [(1,bTyper p0),(2,bTerm t2),(3,.arr (List.map I (List.replicate (Int.toNat (ctx1.length : Int)) 0))),(4,.box [.nils,.rs 3,.rs 20,I 0,.nils]),(20,.arr (List.map PGTyped_S out_27)),(21,.arr (List.map LI_s needs_28)),(22,.arr (List.map LI_s used_29))] ?_
   rcases is h with ⟨hb_39,h⟩ | ⟨hb_39,h⟩
   ·refine cT ((r_13_6.ffault != 0)) hb_39 ?_
    obtain ⟨_,hk_15_10,h⟩ := bsome h
    refine rs hc (rx [[0],[1],[2],[3],[0],[0,4],[0],[0,6],[0,6,7],[0,6,7,8],[0,4,5,6,7,8,9],[11],[12],[13]]) [oN,oN,oN,oN,oN,some (.mk 45 true),oN,oN,oN,oN,some (.eqv (.mk 46 true) ⟨[(73,.rs 46)],[(46,some (rI ([w_12] ++ r_13_6.fpath))),(45,none)],[46]⟩),oN,some (.new 47),oN] [(6,.ra 47 0)] [(46,rI ([w_12] ++ r_13_6.fpath)),(47,.box [.nils,.nils,.nils,I r_13_6.ffault,.rs 46])] (ai (congrArg (fun z => (⟨[(73,.rs 46)],[(46,some (.arr z)),(45,none)],[46]⟩ : Wr)) ((List.map_append).symm : (List.map I [w_12]) ++ (List.map I r_13_6.fpath) = List.map I ([w_12] ++ r_13_6.fpath))) (ai (app_ob (enc1 := I) (enc2 := I) (e1 := [w_12]) (e2 := r_13_6.fpath) (sz := 1) ek_I ek_I hk_15_10) trivial)) ?_
    refine vz 46 (sh_I ([w_12] ++ r_13_6.fpath)) [(6,.ra 47 0)] [(47,.box [.nils,.nils,.nils,I r_13_6.ffault,sI ([w_12] ++ r_13_6.fpath)])] ?_
    refine vb 47 [.nils,.nils,.nils,I r_13_6.ffault,sI ([w_12] ++ r_13_6.fpath)] [(6,.ptr [.sl (List.map I []),.sl (List.map I []),.sl (List.map PGTyped_S []),I r_13_6.ffault,sI ([w_12] ++ r_13_6.fpath)] 0)] [] ?_
    refine rt ?_
    obtain rfl := os h
    exact re [false]
   refine cF ((r_13_6.ffault != 0)) hb_39 ?_
   refine sk ?_
   refine sN ?_
   obtain ⟨r_16_7,hr_16_7,h⟩ := bsome h
   refine rs hc (rx [[0],[0],[0],[0],[0,3],[0,3,4],[0,3,4,5],[7],[8]]) [oN,oN,oN,oN,oN,oN,oN,oc (I r_16_7),oN] [(1,sL ctx1),(3,.ra 1 0),(5,.ra 2 0),(7,.ra 4 0),(8,.rs 21),(9,.rs 22),(10,I w_12),(12,sL more_37),(14,.ptr [sI r_13_6.fty,sI r_13_6.fneeds,.sl (List.map PGTyped_S r_13_6.fkids),I r_13_6.ffault,sI r_13_6.fpath] 0),(15,I r_16_7),(22,.sl (List.map GTerm_S t2.fKids)),(23,I (t2.fKids.length : Int)),(24,I w_12)] [(1,bTyper p0),(2,bTerm t2),(3,.arr (List.map I (List.replicate (Int.toNat (ctx1.length : Int)) 0))),(4,.box [.nils,.rs 3,.rs 20,I 0,.nils]),(20,.arr (List.map PGTyped_S out_27)),(21,.arr (List.map LI_s needs_28)),(22,.arr (List.map LI_s used_29))] (ai (impl_typerfirstOk_s _ _ hr_16_7) (ai bod_177 (ai (oi (I r_16_7)) trivial))) ?_
   refine rs0 hc 2 [(1,sL ctx1),(3,.ra 1 0),(5,.ra 2 0),(7,.ra 4 0),(8,.rs 21),(9,.rs 22),(10,I w_12),(12,sL more_37),(14,.ptr [sI r_13_6.fty,sI r_13_6.fneeds,.sl (List.map PGTyped_S r_13_6.fkids),I r_13_6.ffault,sI r_13_6.fpath] 0),(15,I r_16_7),(22,.sl (List.map GTerm_S t2.fKids)),(23,I (t2.fKids.length : Int)),(24,I w_12),(85,.bool (r_16_7 != 0))] [(1,bTyper p0),(2,bTerm t2),(3,.arr (List.map I (List.replicate (Int.toNat (ctx1.length : Int)) 0))),(4,.box [.nils,.rs 3,.rs 20,I 0,.nils]),(20,.arr (List.map PGTyped_S out_27)),(21,.arr (List.map LI_s needs_28)),(22,.arr (List.map LI_s used_29))] ?_
   rcases is h with ⟨hb_40,h⟩ | ⟨hb_40,h⟩
   ·refine cT ((r_16_7 != 0)) hb_40 ?_
    refine rs hc none [oN,oN,some (.new 48),oN] [(6,.ra 48 0)] [(48,.box [.nils,.nils,.nils,I r_16_7,.nils])] trivial ?_
    refine vb 48 [.nils,.nils,.nils,I r_16_7,.nils] [(6,.ptr [.sl (List.map I []),.sl (List.map I []),.sl (List.map PGTyped_S []),I r_16_7,.sl (List.map I [])] 0)] [] ?_
    refine rt ?_
    obtain rfl := os h
    exact re [false]
   refine cF ((r_16_7 != 0)) hb_40 ?_
   refine sk ?_
   refine sN ?_
   refine sN ?_
   obtain ⟨v_41,hj_42,h⟩ := bsome h
   refine Wp.into (x := .normal) (mkS [(1,sL ctx1),(3,.ra 1 0),(5,.ra 2 0),(7,.ra 4 0),(8,.rs 21),(9,.rs 22),(12,sL more_37),(14,.ptr [sI r_13_6.fty,sI r_13_6.fneeds,.sl (List.map PGTyped_S r_13_6.fkids),I r_13_6.ffault,sI r_13_6.fpath] 0),(22,.sl (List.map GTerm_S t2.fKids)),(23,I (t2.fKids.length : Int)),(24,I w_12),(115,.bool v_41)] [(1,bTyper p0),(2,bTerm t2),(3,.arr (List.map I (List.replicate (Int.toNat (ctx1.length : Int)) 0))),(4,.box [.nils,.rs 3,.rs 20,I 0,.nils]),(20,.arr (List.map PGTyped_S out_27)),(21,.arr (List.map LI_s needs_28)),(22,.arr (List.map LI_s used_29))]) ?_ ?_
   ·replace h := hj_42
    rcases is h with ⟨hb_19_0,h⟩ | ⟨hb_19_0,h⟩
    ·rcases is h with ⟨hb_19_1,h⟩ | ⟨hb_19_1,h⟩
     ·obtain ⟨e_19_16,hi_19_16,h⟩ := bsome h
      obtain ⟨r_19_21,hr_19_21,h⟩ := bsome h
      obtain ⟨e_19_22,hi_19_22,h⟩ := bsome h
      obtain ⟨r_19_24,hr_19_24,h⟩ := bsome h
      refine rg hc ah11_0 [oN,oN,oN,oN,oN,oN,oT,oN,oN,oN,oN,oN,oN,oN,oN,oN,oN,some (.el (.ptr [sI e_19_16.fty,sI e_19_16.fneeds,.sl (List.map PGTyped_S e_19_16.fkids),I e_19_16.ffault,sI e_19_16.fpath] 0)),oN,oN,oN,some (.call (.osl (List.map LI_s r_19_21)) [] 49),oN,some (.el (sI e_19_22)),oc (.bool r_19_24),oN,oT] [(1,sL ctx1),(3,.ra 1 0),(5,.ra 2 0),(7,.ra 4 0),(8,.rs 21),(9,.rs 22),(12,sL more_37),(14,.ptr [sI r_13_6.fty,sI r_13_6.fneeds,.sl (List.map PGTyped_S r_13_6.fkids),I r_13_6.ffault,sI r_13_6.fpath] 0),(22,.sl (List.map GTerm_S t2.fKids)),(23,I (t2.fKids.length : Int)),(24,I w_12),(115,.bool (!r_19_24))] [(1,bTyper p0),(2,bTerm t2),(3,.arr (List.map I (List.replicate (Int.toNat (ctx1.length : Int)) 0))),(4,.box [.nils,.rs 3,.rs 20,I 0,.nils]),(20,.arr (List.map PGTyped_S out_27)),(21,.arr (List.map LI_s needs_28)),(22,.arr (List.map LI_s used_29))] (ar 3 hb_19_0 (ar 9 hb_19_1 (ai (idx_own (enc := PGTyped_S) hi_19_16) (ai hb_19_1 (ai (idx_sl (enc := PGTyped_S) (x := .ptr [sI e_19_16.fty,sI e_19_16.fneeds,.sl (List.map PGTyped_S e_19_16.fkids),I e_19_16.ffault,sI e_19_16.fpath] 0) hi_19_16 (eq_PGTyped_S e_19_16)).2 (ar 4 hb_19_1 (ai (impl_parts_s _ _ hr_19_21) (ai bod_178 (ai (oi (.osl (List.map LI_s r_19_21))) (ai hb_19_1 (ai (idx_own (enc := LI_s) hi_19_22) (ai hb_19_1 (ai (idx_sl (enc := LI_s) (x := sI e_19_22) hi_19_22 (eq_LI_s e_19_22)).2 (ai hb_19_1 (ai (slices_Equal_int_s _ _ hr_19_24) (ai bod_84 (ai (oi (.bool r_19_24)) (ar 2 hb_19_1 trivial)))))))))))))))))) ?_
      obtain rfl := os h
      exact Into.mk
     refine rg hc ah11_0 [oN,oN,oN,oN,oN,oN,oT,oN,o_,o_,o_,o_,o_,o_,o_,o_,o_,o_,o_,o_,o_,o_,o_,o_,o_,o_,oF] [(1,sL ctx1),(3,.ra 1 0),(5,.ra 2 0),(7,.ra 4 0),(8,.rs 21),(9,.rs 22),(12,sL more_37),(14,.ptr [sI r_13_6.fty,sI r_13_6.fneeds,.sl (List.map PGTyped_S r_13_6.fkids),I r_13_6.ffault,sI r_13_6.fpath] 0),(22,.sl (List.map GTerm_S t2.fKids)),(23,I (t2.fKids.length : Int)),(24,I w_12),(115,.bool false)] [(1,bTyper p0),(2,bTerm t2),(3,.arr (List.map I (List.replicate (Int.toNat (ctx1.length : Int)) 0))),(4,.box [.nils,.rs 3,.rs 20,I 0,.nils]),(20,.arr (List.map PGTyped_S out_27)),(21,.arr (List.map LI_s needs_28)),(22,.arr (List.map LI_s used_29))] (ar 3 hb_19_0 (ar 18 (neT hb_19_1) (ai hb_19_1 trivial))) ?_
     obtain rfl := os h
     exact Into.mk
    refine rg hc ah11_0 [oN,oN,oN,oN,o_,o_,oF,oN,o_,o_,o_,o_,o_,o_,o_,o_,o_,o_,o_,o_,o_,o_,o_,o_,o_,o_,oF] [(1,sL ctx1),(3,.ra 1 0),(5,.ra 2 0),(7,.ra 4 0),(8,.rs 21),(9,.rs 22),(12,sL more_37),(14,.ptr [sI r_13_6.fty,sI r_13_6.fneeds,.sl (List.map PGTyped_S r_13_6.fkids),I r_13_6.ffault,sI r_13_6.fpath] 0),(22,.sl (List.map GTerm_S t2.fKids)),(23,I (t2.fKids.length : Int)),(24,I w_12),(115,.bool false)] [(1,bTyper p0),(2,bTerm t2),(3,.arr (List.map I (List.replicate (Int.toNat (ctx1.length : Int)) 0))),(4,.box [.nils,.rs 3,.rs 20,I 0,.nils]),(20,.arr (List.map PGTyped_S out_27)),(21,.arr (List.map LI_s needs_28)),(22,.arr (List.map LI_s used_29))] (ar 2 (neT hb_19_0) (ai hb_19_0 (ar 18 (neT (rfl : false = false)) (ai (rfl : false = false) trivial)))) ?_
    obtain rfl := os h
    exact Into.mk
   clear hj_42
   rcases is h with ⟨hb_43,h⟩ | ⟨hb_43,h⟩
   ·refine cT v_41 hb_43 ?_
    refine rs hc none [oN,some (.new 50),oN] [(6,.ra 50 0)] [(50,.box [.nils,.nils,.nils,I 3,.nils])] trivial ?_
    refine vb 50 [.nils,.nils,.nils,I 3,.nils] [(6,.ptr [.sl (List.map I []),.sl (List.map I []),.sl (List.map PGTyped_S []),I 3,.sl (List.map I [])] 0)] [] ?_
    refine rt ?_
    obtain rfl := os h
    exact re [false]
   refine cF v_41 hb_43 ?_
   refine sk ?_
   obtain ⟨_,hk_21_7,h⟩ := bsome h
   refine rs hc none [oN,oN,oN,oN,oN,oN,some (.eqv (.mk 51 false) ⟨[(124,.rs 51)],[(51,some (.arr (List.map PGTyped_S [r_13_6])))],[51]⟩),some (.eqv (.mk 52 true) ⟨[(125,.rs 52)],[(52,some (.arr (List.map PGTyped_S (out_27 ++ [r_13_6])))),(20,none),(51,none)],[52]⟩),oN,oN,oN] [(1,sL ctx1),(3,.ra 1 0),(5,.ra 2 0),(7,.ra 4 0),(8,.rs 21),(9,.rs 22),(12,sL more_37),(14,.ptr [sI r_13_6.fty,sI r_13_6.fneeds,.sl (List.map PGTyped_S r_13_6.fkids),I r_13_6.ffault,sI r_13_6.fpath] 0),(22,.sl (List.map GTerm_S t2.fKids)),(23,I (t2.fKids.length : Int)),(24,I w_12)] [(1,bTyper p0),(2,bTerm t2),(3,.arr (List.map I (List.replicate (Int.toNat (ctx1.length : Int)) 0))),(4,.box [.nils,.rs 3,.rs 52,I 0,.nils]),(21,.arr (List.map LI_s needs_28)),(22,.arr (List.map LI_s used_29)),(52,.arr (List.map PGTyped_S (out_27 ++ [r_13_6])))] (ai (congrArg (fun z => (⟨[(124,.rs 51)],[(51,some (.arr z))],[51]⟩ : Wr)) ((rows1 (eq_PGTyped_S r_13_6) rows0) : [AV.ptr [sI r_13_6.fty,sI r_13_6.fneeds,.sl (List.map PGTyped_S r_13_6.fkids),I r_13_6.ffault,sI r_13_6.fpath] 0] = List.map PGTyped_S [r_13_6])) (ai (congrArg (fun z => (⟨[(125,.rs 52)],[(52,some (.arr z)),(20,none),(51,none)],[52]⟩ : Wr)) ((List.map_append).symm : (List.map PGTyped_S out_27) ++ (List.map PGTyped_S [r_13_6]) = List.map PGTyped_S (out_27 ++ [r_13_6]))) (ai (app_ob (enc1 := PGTyped_S) (enc2 := PGTyped_S) (e1 := out_27) (e2 := [r_13_6]) (sz := 1) ek_PGTyped_S ek_PGTyped_S hk_21_7) trivial))) ?_
   obtain ⟨c_22_7,hs_22_7,h⟩ := bsome h
   obtain ⟨_,hk_22_9,h⟩ := bsome h
   obtain ⟨c_22_17,hs_22_17,h⟩ := bsome h
   obtain ⟨_,hk_22_19,h⟩ := bsome h
   refine rg hc (rx [[0],[0],[0,1],[0,1,2],[0,1,2,3],[0],[0,5],[0,1,2,3,4,5,6],[0,1,2,3,4,5,6,7],[9],[0],[0],[0,11],[0,11,12],[0,11,12,13],[0],[0,15],[0,11,12,13,14,15,16],[0,11,12,13,14,15,16,17],[19],[20],[21]]) [oN,oN,oN,oN,oN,oN,some (.eqv (.no) ⟨[(134,I (more_37.length : Int))],[],[]⟩),some (.eqv (.no) ⟨[(135,sI c_22_7)],[],[]⟩),some (.mk 53 false),some (.eqv (.mk 54 true) ⟨[(137,.rs 54)],[(54,some (.arr (List.map LI_s (used_29 ++ [c_22_7])))),(22,none),(53,none)],[54]⟩),oN,oN,oN,oN,oN,oN,some (.eqv (.no) ⟨[(144,I (more_37.length : Int))],[],[]⟩),some (.eqv (.no) ⟨[(145,sI c_22_17)],[],[]⟩),some (.mk 55 false),some (.eqv (.mk 56 true) ⟨[(147,.rs 56)],[(56,some (.arr (List.map LI_s (needs_28 ++ [c_22_17])))),(21,none),(55,none)],[56]⟩),oN,oN] [(1,sL ctx1),(3,.ra 1 0),(5,.ra 2 0),(7,.ra 4 0),(8,.rs 56),(9,.rs 54),(22,.sl (List.map GTerm_S t2.fKids)),(23,I (t2.fKids.length : Int)),(24,I w_12)] [(1,bTyper p0),(2,bTerm t2),(3,.arr (List.map I (List.replicate (Int.toNat (ctx1.length : Int)) 0))),(4,.box [.nils,.rs 3,.rs 52,I 0,.nils]),(52,.arr (List.map PGTyped_S (out_27 ++ [r_13_6]))),(54,.arr (List.map LI_s (used_29 ++ [c_22_7]))),(56,.arr (List.map LI_s (needs_28 ++ [c_22_17])))] (ai (lenT (d := 134) LI_s more_37) (ai (cut_wr (d := 135) I hs_22_7) (ai (cut_ob (enc := I) (sz := 1) sz_I hs_22_7) (ai (congrArg (fun z => (⟨[(137,.rs 54)],[(54,some (.arr z)),(22,none),(53,none)],[54]⟩ : Wr)) ((List.map_append).symm : (List.map LI_s used_29) ++ (List.map LI_s [c_22_7]) = List.map LI_s (used_29 ++ [c_22_7]))) (ai (app_ob (enc1 := LI_s) (enc2 := LI_s) (e1 := used_29) (e2 := [c_22_7]) (sz := 1) ek_LI_s ek_LI_s hk_22_9) (ai (lenT (d := 144) LI_s more_37) (ai (cut_wr (d := 145) I hs_22_17) (ai (cut_ob (enc := I) (sz := 1) sz_I hs_22_17) (ai (congrArg (fun z => (⟨[(147,.rs 56)],[(56,some (.arr z)),(21,none),(55,none)],[56]⟩ : Wr)) ((List.map_append).symm : (List.map LI_s needs_28) ++ (List.map LI_s [c_22_17]) = List.map LI_s (needs_28 ++ [c_22_17]))) (ai (app_ob (enc1 := LI_s) (enc2 := LI_s) (e1 := needs_28) (e2 := [c_22_17]) (sz := 1) ek_LI_s ek_LI_s hk_22_19) trivial)))))))))) ?_
   refine rg0 hc 2 [(1,sL ctx1),(3,.ra 1 0),(5,.ra 2 0),(7,.ra 4 0),(8,.rs 56),(9,.rs 54),(22,.sl (List.map GTerm_S t2.fKids)),(23,I (t2.fKids.length : Int)),(24,I (wr (w_12 + 1)))] [(1,bTyper p0),(2,bTerm t2),(3,.arr (List.map I (List.replicate (Int.toNat (ctx1.length : Int)) 0))),(4,.box [.nils,.rs 3,.rs 52,I 0,.nils]),(52,.arr (List.map PGTyped_S (out_27 ++ [r_13_6]))),(54,.arr (List.map LI_s (used_29 ++ [c_22_7]))),(56,.arr (List.map LI_s (needs_28 ++ [c_22_17])))] ?_
   refine loopQ_norm ?_
   exact WpL.view (fun a w hv => SRx.renL [(20,52),(21,56),(22,54)] hv (by kernel_rfl) (by kernel_rfl) (by kernel_rfl)) (impl_typertyp_l0_ih _ _ h c hc)
  refine cF ((decide (w_12 < (t2.fKids.length : Int)))) hb_30 ?_
  refine xt 0 ?_
  refine seqQ_exit ?_
  refine loopQ_exit ?_
  obtain rfl := os h
  exact iv []
theorem impl_typertyp_s : ∀ p r,impl_typertyp p = some r → M_impl_typertyp p r := impl_typertyp_all.1
theorem impl_typertyp_l0_s : ∀ p r,impl_typertyp_l0 p = some r → M_impl_typertyp_l0 p r := impl_typertyp_all.2
def impl_typedOf (p : GSystem × (List (List Int)) × GTerm) : Option (Option GTyped) :=
 match p with
 | (s0,ctx1,t2) =>
  ((
   (impl_IsSystem s0) >>= fun r_1_1 =>
   if r_1_1 = true then
    (impl_isContext (s0,ctx1)) >>= fun r_1_6 =>
    if r_1_6 = true then
     (impl_isTermOf (s0,t2,(ctx1.length : Int))) >>= fun r_1_14 =>
     some ((!r_1_14))
    else
     some (true)
   else
    some (true)
  ) : Option (Bool)) >>= fun v_1 =>
  if v_1 = true then
   some none
  else
   (impl_typertyp ((GTyper.mk s0),ctx1,t2)) >>= fun r_3_4 =>
   some (some r_3_4)
def M_impl_typedOf (p : GSystem × (List (List Int)) × GTerm) (r : Option GTyped) : Prop :=
 match p with
 | (s0,ctx1,t2) => FnSound Tryz.prog 76 [aSystem s0,sL ctx1,aTerm t2] (PGTyped_O r) []
theorem impl_typedOf_s : ∀ p r,impl_typedOf p = some r → M_impl_typedOf p r := by
 rintro ⟨s0,ctx1,t2⟩ r h
 unfold impl_typedOf at h
 refine b0 Tryz.f76 B76 29 [(0,aSystem s0),(1,sL ctx1),(2,aTerm t2)] fun c hc => ?_
 refine rs hc none [some (.new 1),some (.new 2),oN] [(1,sL ctx1),(3,.ra 1 0),(5,.ra 2 0)] [(1,bSystem s0),(2,bTerm t2)] trivial ?_
 refine sN ?_
 refine sN ?_
 obtain ⟨v_1,hj_2,h⟩ := bsome h
 refine Wp.into (x := .normal) (mkS [(1,sL ctx1),(3,.ra 1 0),(5,.ra 2 0),(23,.bool v_1)] [(1,bSystem s0),(2,bTerm t2)]) ?_ ?_
 ·replace h := hj_2
  obtain ⟨r_1_1,hr_1_1,h⟩ := bsome h
  rcases is h with ⟨hb_1_0,h⟩ | ⟨hb_1_0,h⟩
  ·obtain ⟨r_1_6,hr_1_6,h⟩ := bsome h
   rcases is h with ⟨hb_1_1,h⟩ | ⟨hb_1_1,h⟩
   ·obtain ⟨r_1_14,hr_1_14,h⟩ := bsome h
    refine rg hc none [oN,oc (.bool r_1_1),oN,oN,oN,oN,oc (.bool r_1_6),oN,oF,oN,oN,oN,oN,some (.eqv (.no) ⟨[(20,I (ctx1.length : Int))],[],[]⟩),oc (.bool r_1_14),oN,oF] [(1,sL ctx1),(3,.ra 1 0),(5,.ra 2 0),(23,.bool (!r_1_14))] [(1,bSystem s0),(2,bTerm t2)] (ai (impl_IsSystem_s _ _ hr_1_1) (ai bod_109 (ai (oi (.bool r_1_1)) (ar 3 (nF hb_1_0) (ai (impl_isContext_s _ _ hr_1_6) (ai bod_154 (ai (oi (.bool r_1_6)) (ar 2 (nF hb_1_0) (ar 4 (nF hb_1_1) (ai (lenT (d := 20) LI_s ctx1) (ai (nF hb_1_1) (ai (impl_isTermOf_s _ _ hr_1_14) (ai bod_155 (ai (oi (.bool r_1_14)) (ar 2 (nF hb_1_1) trivial))))))))))))))) ?_
    obtain rfl := os h
    exact Into.mk
   refine rg hc none [oN,oc (.bool r_1_1),oN,oN,oN,oN,oc (.bool r_1_6),oN,oF,oN,o_,o_,o_,o_,o_,o_,oT] [(1,sL ctx1),(3,.ra 1 0),(5,.ra 2 0),(23,.bool true)] [(1,bSystem s0),(2,bTerm t2)] (ai (impl_IsSystem_s _ _ hr_1_1) (ai bod_109 (ai (oi (.bool r_1_1)) (ar 3 (nF hb_1_0) (ai (impl_isContext_s _ _ hr_1_6) (ai bod_154 (ai (oi (.bool r_1_6)) (ar 2 (nF hb_1_0) (ar 6 (neF (nT hb_1_1)) (ai (nT hb_1_1) trivial)))))))))) ?_
   obtain rfl := os h
   exact Into.mk
  refine rg hc none [oN,oc (.bool r_1_1),oN,oN,o_,o_,o_,o_,oT,oN,o_,o_,o_,o_,o_,o_,oT] [(1,sL ctx1),(3,.ra 1 0),(5,.ra 2 0),(23,.bool true)] [(1,bSystem s0),(2,bTerm t2)] (ai (impl_IsSystem_s _ _ hr_1_1) (ai bod_109 (ai (oi (.bool r_1_1)) (ar 4 (neF (nT hb_1_0)) (ai (nT hb_1_0) (ar 6 nf (ai tt trivial))))))) ?_
  obtain rfl := os h
  exact Into.mk
 clear hj_2
 rcases is h with ⟨hb_3,h⟩ | ⟨hb_3,h⟩
 ·refine cT v_1 hb_3 ?_
  refine rs0 hc 1 [(6,.nilp)] [] ?_
  refine rt ?_
  obtain rfl := os h
  exact rq [false]
 refine cF v_1 hb_3 ?_
 refine sk ?_
 obtain ⟨r_3_4,hr_3_4,h⟩ := bsome h
 refine rs hc none [oN,oN,oN,oN,oc (.ptr [sI r_3_4.fty,sI r_3_4.fneeds,.sl (List.map PGTyped_S r_3_4.fkids),I r_3_4.ffault,sI r_3_4.fpath] 0),oN] [(6,.ptr [sI r_3_4.fty,sI r_3_4.fneeds,.sl (List.map PGTyped_S r_3_4.fkids),I r_3_4.ffault,sI r_3_4.fpath] 0)] [] (ai (impl_typertyp_s _ _ hr_3_4) (ai bod_156 (ai (oi (.ptr [sI r_3_4.fty,sI r_3_4.fneeds,.sl (List.map PGTyped_S r_3_4.fkids),I r_3_4.ffault,sI r_3_4.fpath] 0)) trivial))) ?_
 refine rt ?_
 obtain rfl := os h
 exact rq [false]
def impl_TypeOf (p : GSystem × (List (List Int)) × GTerm) : Option ((List Int) × (List Int) × Bool) :=
 match p with
 | (s0,ctx1,t2) =>
  (impl_typedOf (s0,ctx1,t2)) >>= fun r_1_3 =>
  match r_1_3 with
  | none =>
   some ([],[],false)
  | some x_1_3 =>
   if (x_1_3.ffault != 0) = true then
    some ([],[],false)
   else
    (slices_Clone_int x_1_3.fty) >>= fun r_4_4 =>
    (slices_Clone_int x_1_3.fneeds) >>= fun r_4_9 =>
    some (r_4_4,r_4_9,true)
def M_impl_TypeOf (p : GSystem × (List (List Int)) × GTerm) (r : (List Int) × (List Int) × Bool) : Prop :=
 match p with
 | (s0,ctx1,t2) => FnSound Tryz.prog 22 [aSystem s0,sL ctx1,aTerm t2] (.tup [oI r.1,.osl (List.map I r.2.1),.bool r.2.2]) []
theorem impl_TypeOf_s : ∀ p r,impl_TypeOf p = some r → M_impl_TypeOf p r := by
 rintro ⟨s0,ctx1,t2⟩ r h
 unfold impl_TypeOf at h
 refine b0 Tryz.f22 B22 33 [(0,aSystem s0),(1,sL ctx1),(2,aTerm t2)] fun c hc => ?_
 refine rs hc none [some (.new 1),some (.new 2),oN,oN,oN] [(1,sL ctx1),(3,.ra 1 0),(5,.ra 2 0)] [(1,bSystem s0),(2,bTerm t2)] trivial ?_
 refine sN ?_
 obtain ⟨r_1_3,hr_1_3,h⟩ := bsome h
 rcases r_1_3 with _ | x_1_3
 ·refine rg hc none [oN,oN,oN,oc (.nilp),oN] [(9,.nilp)] [] (ai (impl_typedOf_s _ _ hr_1_3) (ai bod_76 (ai (oi (.nilp)) trivial))) ?_
  refine sN ?_
  refine rs hc none [oN,oN,oN,o_,o_,o_,o_,o_,oT] [(9,.nilp),(22,.bool true)] [] (ar 5 nf (ai tt trivial)) ?_
  refine cT true (rfl : true = true) ?_
  refine rs0 hc 3 [(6,.nils),(7,.nils),(8,.bool false)] [] ?_
  refine rt ?_
  obtain rfl := os h
  exact rq [true,true,true]
 refine rg hc none [oN,oN,oN,oc (.ptr [sI x_1_3.fty,sI x_1_3.fneeds,.sl (List.map PGTyped_S x_1_3.fkids),I x_1_3.ffault,sI x_1_3.fpath] 0),oN] [(9,.ptr [sI x_1_3.fty,sI x_1_3.fneeds,.sl (List.map PGTyped_S x_1_3.fkids),I x_1_3.ffault,sI x_1_3.fpath] 0)] [] (ai (impl_typedOf_s _ _ hr_1_3) (ai bod_76 (ai (oi (.ptr [sI x_1_3.fty,sI x_1_3.fneeds,.sl (List.map PGTyped_S x_1_3.fkids),I x_1_3.ffault,sI x_1_3.fpath] 0)) trivial))) ?_
 refine sN ?_
 refine rs hc none [oN,oN,oN,oN,oN,oN,oN,oN,oF] [(9,.ptr [sI x_1_3.fty,sI x_1_3.fneeds,.sl (List.map PGTyped_S x_1_3.fkids),I x_1_3.ffault,sI x_1_3.fpath] 0),(22,.bool (x_1_3.ffault != 0))] [] (ar 6 (rfl : false = false) trivial) ?_
 rcases is h with ⟨hb_1,h⟩ | ⟨hb_1,h⟩
 ·refine cT ((x_1_3.ffault != 0)) hb_1 ?_
  refine rs0 hc 3 [(6,.nils),(7,.nils),(8,.bool false)] [] ?_
  refine rt ?_
  obtain rfl := os h
  exact rq [true,true,true]
 refine cF ((x_1_3.ffault != 0)) hb_1 ?_
 refine sk ?_
 obtain ⟨r_4_4,hr_4_4,h⟩ := bsome h
 obtain ⟨r_4_9,hr_4_9,h⟩ := bsome h
 refine rs hc (rx [[0],[1],[2],[3],[4],[0],[0,5],[0,5,6],[0,5,6,7],[9],[10],[11],[12]]) [oN,oN,oN,oN,some (.call (oI r_4_4) [] 3),oN,oN,oN,oN,some (.call (oI r_4_9) [] 4),oN,oN,oN] [(6,.rs 3),(7,.rs 4),(8,.bool true)] [(3,rI r_4_4),(4,rI r_4_9)] (ai (slices_Clone_int_s _ _ hr_4_4) (ai bod_77 (ai (oi (oI r_4_4)) (ai (slices_Clone_int_s _ _ hr_4_9) (ai bod_77 (ai (oi (oI r_4_9)) trivial)))))) ?_
 refine rt ?_
 obtain rfl := os h
 exact rq [true,true,true]
def impl_Fits_F1 (c : Ctx) : (Unit) ⊕ (Bool) → Exit → AState → Prop
 | .inl _ => Into c (.exit 0) (mkS [] [])
 | .inr r => RetE TIx Tryz.f36 [] (.bool r)
def impl_Fits_l0 (p : GSystem × (List Int) × (List Int) × Int) : Option ((Unit) ⊕ (Bool)) :=
 match p with
 | (s0,budgets2,r_1_3_1,w_8) =>
  if (decide (w_8 < (budgets2.length : Int))) = true then
   (idx budgets2 w_8) >>= fun e_6_1 =>
   ((
    (impl_Systemhas (s0,e_6_1)) >>= fun r_7_2 =>
    if r_7_2 = true then
     (idx r_1_3_1 w_8) >>= fun e_7_8 =>
     (impl_Systembelow (s0,e_7_8,e_6_1)) >>= fun r_7_11 =>
     some ((!r_7_11))
    else
     some (true)
   ) : Option (Bool)) >>= fun v_10 =>
   if v_10 = true then
    some (.inr false)
   else
    impl_Fits_l0 (s0,budgets2,r_1_3_1,(wr (w_8 + 1)))
  else
   some (.inl ())
 partial_fixpoint
def M_impl_Fits_l0 (p : GSystem × (List Int) × (List Int) × Int) (fl : (Unit) ⊕ (Bool)) : Prop :=
 match p with
 | (s0,budgets2,r_1_3_1,w_8) => ∀ c : Ctx,c.nt = 61 → WpL Tryz.prog c (cl (cl (cr (cl (cr (cr (cr B36))))))) (impl_Fits_F1 c fl) (mkS [(5,.ra 1 0),(12,.rs 4),(39,sI budgets2),(40,I (budgets2.length : Int)),(41,I w_8)] [(1,bSystem s0),(4,rI r_1_3_1)])
theorem impl_Fits_l0_s : ∀ p r,impl_Fits_l0 p = some r → M_impl_Fits_l0 p r := by
 refine impl_Fits_l0.partial_correctness M_impl_Fits_l0 ?_
 rintro impl_Fits_l0_f impl_Fits_l0_ih ⟨s0,budgets2,r_1_3_1,w_8⟩ r h
 intro c hc
 refine WpL.step ?_
 refine rs0 hc 1 [(5,.ra 1 0),(12,.rs 4),(39,sI budgets2),(40,I (budgets2.length : Int)),(41,I w_8),(42,.bool (decide (w_8 < (budgets2.length : Int))))] [(1,bSystem s0),(4,rI r_1_3_1)] ?_
 refine sN ?_
 rcases is h with ⟨hb_9,h⟩ | ⟨hb_9,h⟩
 ·refine cT ((decide (w_8 < (budgets2.length : Int)))) hb_9 ?_
  refine sk ?_
  refine sN ?_
  refine bk 1 ?_
  obtain ⟨e_6_1,hi_6_1,h⟩ := bsome h
  refine rs hc none [oN,some (.el (I e_6_1)),oN,oN,oN] [(5,.ra 1 0),(12,.rs 4),(14,I w_8),(15,I e_6_1),(39,sI budgets2),(40,I (budgets2.length : Int)),(41,I w_8)] [(1,bSystem s0),(4,rI r_1_3_1)] (ai (ix hi_6_1) trivial) ?_
  refine sN ?_
  obtain ⟨v_10,hj_11,h⟩ := bsome h
  refine Wp.into (x := .normal) (mkS [(5,.ra 1 0),(12,.rs 4),(39,sI budgets2),(40,I (budgets2.length : Int)),(41,I w_8),(59,.bool v_10)] [(1,bSystem s0),(4,rI r_1_3_1)]) ?_ ?_
  ·replace h := hj_11
   obtain ⟨r_7_2,hr_7_2,h⟩ := bsome h
   rcases is h with ⟨hb_7_0,h⟩ | ⟨hb_7_0,h⟩
   ·obtain ⟨e_7_8,hi_7_8,h⟩ := bsome h
    obtain ⟨r_7_11,hr_7_11,h⟩ := bsome h
    refine rg hc ah11_1 [oN,oN,oc (.bool r_7_2),oN,oN,oN,oN,oN,oN,some (.el (I e_7_8)),oN,oc (.bool r_7_11),oN,oF] [(5,.ra 1 0),(12,.rs 4),(39,sI budgets2),(40,I (budgets2.length : Int)),(41,I w_8),(59,.bool (!r_7_11))] [(1,bSystem s0),(4,rI r_1_3_1)] (ai (impl_Systemhas_s _ _ hr_7_2) (ai bod_85 (ai (oi (.bool r_7_2)) (ar 4 (nF hb_7_0) (ai (idx_own (enc := I) hi_7_8) (ai (nF hb_7_0) (ai (ix hi_7_8).2 (ar 2 (nF hb_7_0) (ai (impl_Systembelow_s _ _ hr_7_11) (ai bod_86 (ai (oi (.bool r_7_11)) (ar 2 (nF hb_7_0) trivial)))))))))))) ?_
    obtain rfl := os h
    exact Into.mk
   refine rg hc ah11_1 [oN,oN,oc (.bool r_7_2),oN,oN,o_,o_,o_,o_,o_,o_,o_,o_,oT] [(5,.ra 1 0),(12,.rs 4),(39,sI budgets2),(40,I (budgets2.length : Int)),(41,I w_8),(59,.bool true)] [(1,bSystem s0),(4,rI r_1_3_1)] (ai (impl_Systemhas_s _ _ hr_7_2) (ai bod_85 (ai (oi (.bool r_7_2)) (ar 8 (neF (nT hb_7_0)) (ai (nT hb_7_0) trivial))))) ?_
   obtain rfl := os h
   exact Into.mk
  clear hj_11
  rcases is h with ⟨hb_12,h⟩ | ⟨hb_12,h⟩
  ·refine cT v_10 hb_12 ?_
   refine rs0 hc 1 [(10,.bool false)] [] ?_
   refine rt ?_
   obtain rfl := os h
   exact re [true]
  refine cF v_10 hb_12 ?_
  refine sk ?_
  refine rg0 hc 2 [(5,.ra 1 0),(12,.rs 4),(39,sI budgets2),(40,I (budgets2.length : Int)),(41,I (wr (w_8 + 1)))] [(1,bSystem s0),(4,rI r_1_3_1)] ?_
  refine loopQ_norm ?_
  exact (impl_Fits_l0_ih _ _ h c hc)
 refine cF ((decide (w_8 < (budgets2.length : Int)))) hb_9 ?_
 refine xt 0 ?_
 refine seqQ_exit ?_
 refine loopQ_exit ?_
 obtain rfl := os h
 exact iv []
def impl_Fits (p : GSystem × (List (List Int)) × (List Int) × GTerm × (List Int)) : Option (Bool) :=
 match p with
 | (s0,ctx1,budgets2,t3,ty4) =>
  (impl_TypeOf (s0,ctx1,t3)) >>= fun (r_1_3_0,r_1_3_1,r_1_3_2) =>
  ((
   if r_1_3_2 = true then
    (slices_Equal_int (r_1_3_0,ty4)) >>= fun r_2_5 =>
    if r_2_5 = true then
     some (((budgets2.length : Int) != (ctx1.length : Int)))
    else
     some (true)
   else
    some (true)
  ) : Option (Bool)) >>= fun v_1 =>
  if v_1 = true then
   some false
  else
   (impl_Fits_l0 (s0,budgets2,r_1_3_1,0)) >>= fun fl => match fl with
   | .inl () =>
    some true
   | .inr r =>
    some r
def M_impl_Fits (p : GSystem × (List (List Int)) × (List Int) × GTerm × (List Int)) (r : Bool) : Prop :=
 match p with
 | (s0,ctx1,budgets2,t3,ty4) => FnSound Tryz.prog 36 [aSystem s0,sL ctx1,sI budgets2,aTerm t3,sI ty4] (.bool r) []
theorem impl_Fits_s : ∀ p r,impl_Fits p = some r → M_impl_Fits p r := by
 rintro ⟨s0,ctx1,budgets2,t3,ty4⟩ r h
 unfold impl_Fits at h
 refine b0 Tryz.f36 B36 61 [(0,aSystem s0),(1,sL ctx1),(2,sI budgets2),(3,aTerm t3),(4,sI ty4)] fun c hc => ?_
 refine rs hc none [some (.new 1),some (.new 2),oN] [(1,sL ctx1),(2,sI budgets2),(4,sI ty4),(5,.ra 1 0),(8,.ra 2 0)] [(1,bSystem s0),(2,bTerm t3)] trivial ?_
 obtain ⟨⟨r_1_3_0,r_1_3_1,r_1_3_2⟩,hr_1_3,h⟩ := bsome h
 refine rs hc none [oN,oN,oN,some (.call (.tup [oI r_1_3_0,oI r_1_3_1,.bool r_1_3_2]) [] 3),oN,oN,oN,oN,oN,oN,oN] [(1,sL ctx1),(2,sI budgets2),(4,sI ty4),(5,.ra 1 0),(11,.rs 3),(12,.rs 4),(13,.bool r_1_3_2)] [(1,bSystem s0),(3,rI r_1_3_0),(4,rI r_1_3_1)] (ai (impl_TypeOf_s _ _ hr_1_3) (ai bod_22 (ai (oi (.tup [oI r_1_3_0,oI r_1_3_1,.bool r_1_3_2])) trivial))) ?_
 refine sN ?_
 refine sN ?_
 obtain ⟨v_1,hj_2,h⟩ := bsome h
 refine Wp.into (x := .normal) (mkS [(2,sI budgets2),(5,.ra 1 0),(12,.rs 4),(38,.bool v_1)] [(1,bSystem s0),(4,rI r_1_3_1)]) ?_ ?_
 ·replace h := hj_2
  rcases is h with ⟨hb_2_0,h⟩ | ⟨hb_2_0,h⟩
  ·obtain ⟨r_2_5,hr_2_5,h⟩ := bsome h
   rcases is h with ⟨hb_2_1,h⟩ | ⟨hb_2_1,h⟩
   ·refine rg hc none [oN,oN,oN,oN,oN,oc (.bool r_2_5),oN,oF,oN,oN,some (.eqv (.no) ⟨[(34,I (budgets2.length : Int))],[],[]⟩),oN,some (.eqv (.no) ⟨[(36,I (ctx1.length : Int))],[],[]⟩),oN,oF] [(2,sI budgets2),(5,.ra 1 0),(12,.rs 4),(38,.bool ((budgets2.length : Int) != (ctx1.length : Int)))] [(1,bSystem s0),(4,rI r_1_3_1)] (ar 3 (nF hb_2_0) (ai (FnSound.args (A1 := [.sl (shares (List.map I r_1_3_0)),sI ty4]) (A2 := [sI r_1_3_0,sI ty4]) (by simp only [sI,sB,sL,aSystem,aTerm,aL3Told,aTyped,aTyper,hSystem,hTerm,hL3Told,hTyped,hTyper,List.map_nil,sh_I]) (slices_Equal_int_s _ _ hr_2_5)) (ai bod_84 (ai (Or.inr rfl : ([3] : List Nat) = [] ∨ noSh (.bool r_2_5) = true) (ar 2 (nF hb_2_0) (ar 2 (nF hb_2_1) (ai (lenT (d := 34) I budgets2) (ar 2 (nF hb_2_1) (ai (lenT (d := 36) LI_s ctx1) (ar 2 (nF hb_2_1) trivial)))))))))) ?_
    obtain rfl := os h
    exact Into.mk
   refine rg hc none [oN,oN,oN,oN,oN,oc (.bool r_2_5),oN,oF,oN,o_,o_,o_,o_,o_,oT] [(2,sI budgets2),(5,.ra 1 0),(12,.rs 4),(38,.bool true)] [(1,bSystem s0),(4,rI r_1_3_1)] (ar 3 (nF hb_2_0) (ai (FnSound.args (A1 := [.sl (shares (List.map I r_1_3_0)),sI ty4]) (A2 := [sI r_1_3_0,sI ty4]) (by simp only [sI,sB,sL,aSystem,aTerm,aL3Told,aTyped,aTyper,hSystem,hTerm,hL3Told,hTyped,hTyper,List.map_nil,sh_I]) (slices_Equal_int_s _ _ hr_2_5)) (ai bod_84 (ai (Or.inr rfl : ([3] : List Nat) = [] ∨ noSh (.bool r_2_5) = true) (ar 2 (nF hb_2_0) (ar 5 (neF (nT hb_2_1)) (ai (nT hb_2_1) trivial))))))) ?_
   obtain rfl := os h
   exact Into.mk
  refine rg hc none [oN,oN,oN,o_,o_,o_,o_,oT,oN,o_,o_,o_,o_,o_,oT] [(2,sI budgets2),(5,.ra 1 0),(12,.rs 4),(38,.bool true)] [(1,bSystem s0),(4,rI r_1_3_1)] (ar 4 (neF (nT hb_2_0)) (ai (nT hb_2_0) (ar 5 nf (ai tt trivial)))) ?_
  obtain rfl := os h
  exact Into.mk
 clear hj_2
 rcases is h with ⟨hb_3,h⟩ | ⟨hb_3,h⟩
 ·refine cT v_1 hb_3 ?_
  refine rs0 hc 1 [(10,.bool false)] [] ?_
  refine rt ?_
  obtain rfl := os h
  exact rq [true]
 refine cF v_1 hb_3 ?_
 refine sk ?_
 refine sN ?_
 refine rs hc none [oN,some (.eqv (.no) ⟨[(40,I (budgets2.length : Int))],[],[]⟩),oN] [(5,.ra 1 0),(12,.rs 4),(39,sI budgets2),(40,I (budgets2.length : Int)),(41,I 0)] [(1,bSystem s0),(4,rI r_1_3_1)] (ai (lenT (d := 40) I budgets2) trivial) ?_
 refine bk 0 ?_
 obtain ⟨fl,hl_13,h⟩ := bsome h
 have hL := impl_Fits_l0_s _ _ hl_13 c hc
 refine lp ?_
 rcases fl with ⟨⟩ | r
 ·refine WpL.into (e := (.exit 0)) (mkS [] []) hL ?_
  refine blockQ_hit ?_
  refine rs0 hc 1 [(10,.bool true)] [] ?_
  refine rt ?_
  obtain rfl := os h
  exact rq [true]
 refine WpL.mono hL ?_
 rintro _ _ ⟨rfl,hfin⟩
 obtain rfl := os h
 exact ⟨.inl rfl,hfin⟩
def laws_eqIntS_F1 (c : Ctx) : (Unit) ⊕ (Bool) → Exit → AState → Prop
 | .inl _ => Into c (.exit 0) (mkS [] [])
 | .inr r => RetE TIx Tryz.f23 [] (.bool r)
def laws_eqIntS_l0 (p : (List Int) × (List Int) × Int) : Option ((Unit) ⊕ (Bool)) :=
 match p with
 | (a0,b1,i_4) =>
  if (decide (i_4 < (a0.length : Int))) = true then
   (idx a0 i_4) >>= fun e_6_2 =>
   (idx b1 i_4) >>= fun e_6_6 =>
   if (e_6_2 != e_6_6) = true then
    some (.inr false)
   else
    laws_eqIntS_l0 (a0,b1,(wr (i_4 + 1)))
  else
   some (.inl ())
 partial_fixpoint
def M_laws_eqIntS_l0 (p : (List Int) × (List Int) × Int) (fl : (Unit) ⊕ (Bool)) : Prop :=
 match p with
 | (a0,b1,i_4) => ∀ c : Ctx,c.nt = 26 → WpL Tryz.prog c (cl (cl (cr (cl (cr (cr B23)))))) (laws_eqIntS_F1 c fl) (mkS [(0,sI a0),(1,sI b1),(5,I i_4)] [])
theorem laws_eqIntS_l0_s : ∀ p r,laws_eqIntS_l0 p = some r → M_laws_eqIntS_l0 p r := by
 refine laws_eqIntS_l0.partial_correctness M_laws_eqIntS_l0 ?_
 rintro laws_eqIntS_l0_f laws_eqIntS_l0_ih ⟨a0,b1,i_4⟩ r h
 intro c hc
 refine WpL.step ?_
 refine sN ?_
 refine rs hc none [oN,oN,some (.eqv (.no) ⟨[(13,I (a0.length : Int))],[],[]⟩),oN] [(0,sI a0),(1,sI b1),(5,I i_4),(14,.bool (decide (i_4 < (a0.length : Int))))] [] (ai (lenT (d := 13) I a0) trivial) ?_
 rcases is h with ⟨hb_5,h⟩ | ⟨hb_5,h⟩
 ·refine cT ((decide (i_4 < (a0.length : Int)))) hb_5 ?_
  refine sk ?_
  refine sN ?_
  refine bk 1 ?_
  obtain ⟨e_6_2,hi_6_2,h⟩ := bsome h
  obtain ⟨e_6_6,hi_6_6,h⟩ := bsome h
  refine rs hc ah11_2 [oN,oN,some (.el (I e_6_2)),oN,oN,oN,some (.el (I e_6_6)),oN,oN] [(0,sI a0),(1,sI b1),(5,I i_4),(25,.bool (e_6_2 != e_6_6))] [] (ai (ix hi_6_2) (ai (ix hi_6_6) trivial)) ?_
  rcases is h with ⟨hb_6,h⟩ | ⟨hb_6,h⟩
  ·refine cT ((e_6_2 != e_6_6)) hb_6 ?_
   refine rs0 hc 1 [(4,.bool false)] [] ?_
   refine rt ?_
   obtain rfl := os h
   exact re [true]
  refine cF ((e_6_2 != e_6_6)) hb_6 ?_
  refine sk ?_
  refine rg0 hc 3 [(0,sI a0),(1,sI b1),(5,I (wr (i_4 + 1)))] [] ?_
  refine loopQ_norm ?_
  exact (laws_eqIntS_l0_ih _ _ h c hc)
 refine cF ((decide (i_4 < (a0.length : Int)))) hb_5 ?_
 refine xt 0 ?_
 refine seqQ_exit ?_
 refine loopQ_exit ?_
 obtain rfl := os h
 exact iv []
def laws_eqIntS (p : (List Int) × (List Int)) : Option (Bool) :=
 match p with
 | (a0,b1) =>
  if ((a0.length : Int) != (b1.length : Int)) = true then
   some false
  else
   (laws_eqIntS_l0 (a0,b1,0)) >>= fun fl => match fl with
   | .inl () =>
    some true
   | .inr r =>
    some r
def M_laws_eqIntS (p : (List Int) × (List Int)) (r : Bool) : Prop :=
 match p with
 | (a0,b1) => FnSound Tryz.prog 23 [sI a0,sI b1] (.bool r) []
theorem laws_eqIntS_s : ∀ p r,laws_eqIntS p = some r → M_laws_eqIntS p r := by
 rintro ⟨a0,b1⟩ r h
 unfold laws_eqIntS at h
 refine b0 Tryz.f23 B23 26 [(0,sI a0),(1,sI b1)] fun c hc => ?_
 refine rs0 hc 1 [(0,sI a0),(1,sI b1)] [] ?_
 refine sN ?_
 refine rs hc none [oN,some (.eqv (.no) ⟨[(7,I (a0.length : Int))],[],[]⟩),oN,some (.eqv (.no) ⟨[(9,I (b1.length : Int))],[],[]⟩),oN] [(0,sI a0),(1,sI b1),(10,.bool ((a0.length : Int) != (b1.length : Int)))] [] (ai (lenT (d := 7) I a0) (ai (lenT (d := 9) I b1) trivial)) ?_
 rcases is h with ⟨hb_1,h⟩ | ⟨hb_1,h⟩
 ·refine cT (((a0.length : Int) != (b1.length : Int))) hb_1 ?_
  refine rs0 hc 1 [(4,.bool false)] [] ?_
  refine rt ?_
  obtain rfl := os h
  exact rq [true]
 refine cF (((a0.length : Int) != (b1.length : Int))) hb_1 ?_
 refine sk ?_
 refine sN ?_
 refine rs0 hc 1 [(0,sI a0),(1,sI b1),(5,I 0)] [] ?_
 refine bk 0 ?_
 obtain ⟨fl,hl_7,h⟩ := bsome h
 have hL := laws_eqIntS_l0_s _ _ hl_7 c hc
 refine lp ?_
 rcases fl with ⟨⟩ | r
 ·refine WpL.into (e := (.exit 0)) (mkS [] []) hL ?_
  refine blockQ_hit ?_
  refine rs0 hc 1 [(4,.bool true)] [] ?_
  refine rt ?_
  obtain rfl := os h
  exact rq [true]
 refine WpL.mono hL ?_
 rintro _ _ ⟨rfl,hfin⟩
 obtain rfl := os h
 exact ⟨.inl rfl,hfin⟩
def laws_eqBoolS_F1 (c : Ctx) : (Unit) ⊕ (Bool) → Exit → AState → Prop
 | .inl _ => Into c (.exit 0) (mkS [] [])
 | .inr r => RetE TIx Tryz.f78 [] (.bool r)
def laws_eqBoolS_l0 (p : (List Bool) × (List Bool) × Int) : Option ((Unit) ⊕ (Bool)) :=
 match p with
 | (a0,b1,i_4) =>
  if (decide (i_4 < (a0.length : Int))) = true then
   (idx a0 i_4) >>= fun e_6_2 =>
   (idx b1 i_4) >>= fun e_6_6 =>
   if (e_6_2 == e_6_6) = true then
    laws_eqBoolS_l0 (a0,b1,(wr (i_4 + 1)))
   else
    some (.inr false)
  else
   some (.inl ())
 partial_fixpoint
def M_laws_eqBoolS_l0 (p : (List Bool) × (List Bool) × Int) (fl : (Unit) ⊕ (Bool)) : Prop :=
 match p with
 | (a0,b1,i_4) => ∀ c : Ctx,c.nt = 26 → WpL Tryz.prog c (cl (cl (cr (cl (cr (cr B78)))))) (laws_eqBoolS_F1 c fl) (mkS [(0,sB a0),(1,sB b1),(5,I i_4)] [])
theorem laws_eqBoolS_l0_s : ∀ p r,laws_eqBoolS_l0 p = some r → M_laws_eqBoolS_l0 p r := by
 refine laws_eqBoolS_l0.partial_correctness M_laws_eqBoolS_l0 ?_
 rintro laws_eqBoolS_l0_f laws_eqBoolS_l0_ih ⟨a0,b1,i_4⟩ r h
 intro c hc
 refine WpL.step ?_
 refine sN ?_
 refine rs hc none [oN,oN,some (.eqv (.no) ⟨[(13,I (a0.length : Int))],[],[]⟩),oN] [(0,sB a0),(1,sB b1),(5,I i_4),(14,.bool (decide (i_4 < (a0.length : Int))))] [] (ai (lenT (d := 13) AV.bool a0) trivial) ?_
 rcases is h with ⟨hb_5,h⟩ | ⟨hb_5,h⟩
 ·refine cT ((decide (i_4 < (a0.length : Int)))) hb_5 ?_
  refine sk ?_
  refine sN ?_
  refine bk 1 ?_
  obtain ⟨e_6_2,hi_6_2,h⟩ := bsome h
  obtain ⟨e_6_6,hi_6_6,h⟩ := bsome h
  refine rs hc ah11_2 [oN,oN,some (.el (.bool e_6_2)),oN,oN,oN,some (.el (.bool e_6_6)),oN,oN] [(0,sB a0),(1,sB b1),(5,I i_4),(25,.bool (!(e_6_2 == e_6_6)))] [] (ai (idx_sl (enc := AV.bool) (x := .bool e_6_2) hi_6_2 (eq_B e_6_2)) (ai (idx_sl (enc := AV.bool) (x := .bool e_6_6) hi_6_6 (eq_B e_6_6)) trivial)) ?_
  rcases is h with ⟨hb_6,h⟩ | ⟨hb_6,h⟩
  ·refine cF ((!(e_6_2 == e_6_6))) (nF hb_6) ?_
   refine sk ?_
   refine rg0 hc 3 [(0,sB a0),(1,sB b1),(5,I (wr (i_4 + 1)))] [] ?_
   refine loopQ_norm ?_
   exact (laws_eqBoolS_l0_ih _ _ h c hc)
  refine cT ((!(e_6_2 == e_6_6))) (nT hb_6) ?_
  refine rs0 hc 1 [(4,.bool false)] [] ?_
  refine rt ?_
  obtain rfl := os h
  exact re [true]
 refine cF ((decide (i_4 < (a0.length : Int)))) hb_5 ?_
 refine xt 0 ?_
 refine seqQ_exit ?_
 refine loopQ_exit ?_
 obtain rfl := os h
 exact iv []
end Go.Am
