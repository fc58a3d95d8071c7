/- Functions of the program as pure functions,and that it computes them. Printed by a program of mine (gen.py). -/
import Derived.Test.YtmcpomoofkjfcaaGreatGFIF9
set_option linter.unusedVariables false
set_option linter.unusedSimpArgs false
set_option maxRecDepth 100000
namespace Go.Am
open Go Go.Proofs
def ah10_0 : Option (List (List Nat)) := rx [[0],[0],[0,1],[0,1,2],[0],[0,4],[6],[7]]
def ah10_1 : Option (List (List Nat)) := rx [[0],[0],[0],[0,2],[0],[0],[0],[0,6],[0],[0,8],[0,8,9],[0,2,3,5,6,7,8,9,10],[0],[0,12],[0,12,13],[0,2,3,4,5,6,7,8,9,10,11,12,13,14],[1,2,3,4,5,6,7,8,9,10,11,12,13,14,15],[1,2,3,4,5,6,7,8,9,10,11,12,13,14,15,16],[1,2,3,4,5,6,7,8,9,10,11,12,13,14,15,16,17],[19],[20],[21]]
def ah10_2 : Option (List (List Nat)) := rx [[0],[0],[0],[0],[0,3],[0],[0,5],[0,2,3,4,5,6],[0,2,3,4,5,6,7],[0],[0,9],[0,9,10],[1,2,3,4,5,6,7,8,9,10,11],[1,2,3,4,5,6,7,8,9,10,11,12],[1,2,3,4,5,6,7,8,9,10,11,12,13],[15],[16],[17]]
def ah10_3 : Option (List (List Nat)) := rx [[0],[0],[0,1],[0,1,2],[0],[0,4],[6],[7],[8],[9],[9],[9,10],[9,10,11],[9],[9,13],[15],[16],[17]]
def impl_typerfinish (p : GTyper × GTyped × (List (List Int)) × GTerm × (List (List Int)) × (List (List Int))) : Option (Int × GTyped) :=
 match p with
 | (p0,out1,ctx2,t3,needs4,used5) =>
  ((
   if (t3.fOp == 0) = true then
    (idx ctx2 t3.fN) >>= fun e_4_4 =>
    (slices_Clone_int e_4_4) >>= fun r_4_6 =>
    (idx out1.fneeds t3.fN) >>= fun e_5_6 =>
    some (.inl (r_4_6,(List.set out1.fneeds (Int.toNat t3.fN) 1)))
   else
    ((
     if (t3.fOp == 1) = true then
      some (.inl ([0],out1.fneeds))
     else
      ((
       if (t3.fOp == 2) = true then
        (idx needs4 0) >>= fun e_9_5 =>
        (idx needs4 1) >>= fun e_9_8 =>
        (impl_typersum (p0,e_9_5,e_9_8)) >>= fun r_9_10 =>
        some (.inl ([0],r_9_10))
       else
        ((
         if (t3.fOp == 3) = true then
          (impl_typerfinish_c1 (1,out1)) >>= fun r_11_1 =>
          (impl_typerfinish_c1 (2,out1)) >>= fun r_11_3 =>
          (slices_Equal_int (r_11_1,r_11_3)) >>= fun r_11_4 =>
          if r_11_4 = true then
           (impl_typerfinish_c1 (1,out1)) >>= fun r_13_3 =>
           (idx needs4 0) >>= fun e_13_6 =>
           (idx needs4 1) >>= fun e_13_10 =>
           (idx needs4 2) >>= fun e_13_13 =>
           (impl_typerjoin (p0,e_13_10,e_13_13)) >>= fun r_13_15 =>
           (impl_typersum (p0,e_13_6,r_13_15)) >>= fun r_13_16 =>
           some (.inl (r_13_3,r_13_16))
          else
           some (.inr (3,out1))
         else
          ((
           if (t3.fOp == 4) = true then
            (impl_typerfinish_c1 (0,out1)) >>= fun r_15_4 =>
            (impl_typerfinish_c1 (1,out1)) >>= fun r_15_6 =>
            (slices_Concat_int [[1],r_15_4,r_15_6]) >>= fun r_15_8 =>
            (idx needs4 0) >>= fun e_15_11 =>
            (idx needs4 1) >>= fun e_15_14 =>
            (impl_typersum (p0,e_15_11,e_15_14)) >>= fun r_15_16 =>
            some (.inl (r_15_8,r_15_16))
           else
            ((
             if (t3.fOp == 5) = true then
              (idx used5 1) >>= fun e_17_2 =>
              (impl_typerusedOk (p0,e_17_2,t3.fN)) >>= fun r_17_6 =>
              if r_17_6 = true then
               (impl_typerfinish_c1 (1,out1)) >>= fun r_19_3 =>
               (idx needs4 0) >>= fun e_19_9 =>
               (impl_typerscaled (p0,t3.fN,e_19_9)) >>= fun r_19_11 =>
               (idx needs4 1) >>= fun e_19_13 =>
               (impl_typersum (p0,r_19_11,e_19_13)) >>= fun r_19_15 =>
               some (.inl (r_19_3,r_19_15))
              else
               some (.inr (9,out1))
             else
              ((
               if (t3.fOp == 6) = true then
                (impl_typerfinish_c1 (0,out1)) >>= fun r_21_4 =>
                (slices_Concat_int [[2],r_21_4,t3.fType]) >>= fun r_21_8 =>
                (idx needs4 0) >>= fun e_21_10 =>
                some (.inl (r_21_8,e_21_10))
               else
                ((
                 if (t3.fOp == 7) = true then
                  (impl_typerfinish_c1 (0,out1)) >>= fun r_23_6 =>
                  (slices_Concat_int [[2],t3.fType,r_23_6]) >>= fun r_23_8 =>
                  (idx needs4 0) >>= fun e_23_10 =>
                  some (.inl (r_23_8,e_23_10))
                 else
                  ((
                   if (t3.fOp == 8) = true then
                    (impl_typerfinish_c1 (1,out1)) >>= fun r_25_1 =>
                    (impl_typerfinish_c1 (2,out1)) >>= fun r_25_3 =>
                    (slices_Equal_int (r_25_1,r_25_3)) >>= fun r_25_4 =>
                    if r_25_4 = true then
                     ((
                      (idx used5 1) >>= fun e_27_2 =>
                      (impl_typerusedOk (p0,e_27_2,t3.fN)) >>= fun r_27_6 =>
                      if r_27_6 = true then
                       (idx used5 2) >>= fun e_27_11 =>
                       (impl_typerusedOk (p0,e_27_11,t3.fN)) >>= fun r_27_15 =>
                       some ((!r_27_15))
                      else
                       some (true)
                     ) : Option (Bool)) >>= fun v_13 =>
                     if v_13 = true then
                      some (.inr (9,out1))
                     else
                      (impl_typerfinish_c1 (1,out1)) >>= fun r_29_3 =>
                      (idx needs4 0) >>= fun e_29_9 =>
                      (impl_typerscaled (p0,t3.fN,e_29_9)) >>= fun r_29_11 =>
                      (idx needs4 1) >>= fun e_29_14 =>
                      (idx needs4 2) >>= fun e_29_17 =>
                      (impl_typerjoin (p0,e_29_14,e_29_17)) >>= fun r_29_19 =>
                      (impl_typersum (p0,r_29_11,r_29_19)) >>= fun r_29_20 =>
                      some (.inl (r_29_3,r_29_20))
                    else
                     some (.inr (3,out1))
                   else
                    ((
                     if (t3.fOp == 9) = true then
                      (idx used5 0) >>= fun e_31_2 =>
                      (impl_typerusedOk (p0,e_31_2,t3.fN)) >>= fun r_31_6 =>
                      if r_31_6 = true then
                       (impl_typerfinish_c1 (0,out1)) >>= fun r_33_9 =>
                       (slices_Concat_int [[(wr (3 + t3.fN))],t3.fType,r_33_9]) >>= fun r_33_11 =>
                       (idx needs4 0) >>= fun e_33_13 =>
                       some (.inl (r_33_11,e_33_13))
                      else
                       some (.inr (9,out1))
                     else
                      ((
                       if (t3.fOp == 10) = true then
                        (impl_typerfinish_c1 (0,out1)) >>= fun r_35_1 =>
                        (idx r_35_1 0) >>= fun e_35_2 =>
                        (impl_shape e_35_2) >>= fun (r_35_4_0,r_35_4_1) =>
                        (impl_typerfinish_c1 (0,out1)) >>= fun r_36_3 =>
                        (impl_parts r_36_3) >>= fun r_36_4 =>
                        (idx r_36_4 1) >>= fun e_36_5 =>
                        (idx needs4 0) >>= fun e_36_9 =>
                        (idx needs4 1) >>= fun e_36_14 =>
                        (impl_typerscaled (p0,r_35_4_1,e_36_14)) >>= fun r_36_16 =>
                        (impl_typersum (p0,e_36_9,r_36_16)) >>= fun r_36_17 =>
                        some (.inl (e_36_5,r_36_17))
                       else
                        ((
                         if (t3.fOp == 11) = true then
                          (impl_typerfinish_c1 (0,out1)) >>= fun r_38_7 =>
                          (slices_Concat_int [[(wr (19 + t3.fN))],r_38_7]) >>= fun r_38_9 =>
                          (idx needs4 0) >>= fun e_38_14 =>
                          (impl_typerscaled (p0,t3.fN,e_38_14)) >>= fun r_38_16 =>
                          some (.inl (r_38_9,r_38_16))
                         else
                          ((
                           if (t3.fOp == 12) = true then
                            (impl_typerfinish_c1 (0,out1)) >>= fun r_40_1 =>
                            (idx r_40_1 0) >>= fun e_40_2 =>
                            (impl_shape e_40_2) >>= fun (r_40_4_0,r_40_4_1) =>
                            (idx used5 1) >>= fun e_41_2 =>
                            (impl_Systemtimes (p0.fs,t3.fN,r_40_4_1)) >>= fun r_41_9 =>
                            (impl_typerusedOk (p0,e_41_2,r_41_9)) >>= fun r_41_10 =>
                            if r_41_10 = true then
                             (impl_typerfinish_c1 (1,out1)) >>= fun r_43_3 =>
                             (idx needs4 0) >>= fun e_43_9 =>
                             (impl_typerscaled (p0,t3.fN,e_43_9)) >>= fun r_43_11 =>
                             (idx needs4 1) >>= fun e_43_13 =>
                             (impl_typersum (p0,r_43_11,e_43_13)) >>= fun r_43_15 =>
                             some (.inl (r_43_3,r_43_15))
                            else
                             some (.inr (9,out1))
                           else
                            some (.inl (out1.fty,out1.fneeds))) : Option (((List Int) × (List Int)) ⊕ ((Int × GTyped)))) >>= fun fl => match fl with
                          | .inl (out_22,out_23) =>
                           some (.inl (out_22,out_23))
                          | .inr r =>
                           some (.inr r)) : Option (((List Int) × (List Int)) ⊕ ((Int × GTyped)))) >>= fun fl => match fl with
                        | .inl (out_25,out_26) =>
                         some (.inl (out_25,out_26))
                        | .inr r =>
                         some (.inr r)) : Option (((List Int) × (List Int)) ⊕ ((Int × GTyped)))) >>= fun fl => match fl with
                      | .inl (out_28,out_29) =>
                       some (.inl (out_28,out_29))
                      | .inr r =>
                       some (.inr r)) : Option (((List Int) × (List Int)) ⊕ ((Int × GTyped)))) >>= fun fl => match fl with
                    | .inl (out_31,out_32) =>
                     some (.inl (out_31,out_32))
                    | .inr r =>
                     some (.inr r)) : Option (((List Int) × (List Int)) ⊕ ((Int × GTyped)))) >>= fun fl => match fl with
                  | .inl (out_34,out_36) =>
                   some (.inl (out_34,out_36))
                  | .inr r =>
                   some (.inr r)) : Option (((List Int) × (List Int)) ⊕ ((Int × GTyped)))) >>= fun fl => match fl with
                | .inl (out_38,out_39) =>
                 some (.inl (out_38,out_39))
                | .inr r =>
                 some (.inr r)) : Option (((List Int) × (List Int)) ⊕ ((Int × GTyped)))) >>= fun fl => match fl with
              | .inl (out_41,out_42) =>
               some (.inl (out_41,out_42))
              | .inr r =>
               some (.inr r)) : Option (((List Int) × (List Int)) ⊕ ((Int × GTyped)))) >>= fun fl => match fl with
            | .inl (out_44,out_46) =>
             some (.inl (out_44,out_46))
            | .inr r =>
             some (.inr r)) : Option (((List Int) × (List Int)) ⊕ ((Int × GTyped)))) >>= fun fl => match fl with
          | .inl (out_48,out_50) =>
           some (.inl (out_48,out_50))
          | .inr r =>
           some (.inr r)) : Option (((List Int) × (List Int)) ⊕ ((Int × GTyped)))) >>= fun fl => match fl with
        | .inl (out_52,out_54) =>
         some (.inl (out_52,out_54))
        | .inr r =>
         some (.inr r)) : Option (((List Int) × (List Int)) ⊕ ((Int × GTyped)))) >>= fun fl => match fl with
      | .inl (out_57,out_58) =>
       some (.inl (out_57,out_58))
      | .inr r =>
       some (.inr r)) : Option (((List Int) × (List Int)) ⊕ ((Int × GTyped)))) >>= fun fl => match fl with
    | .inl (out_60,out_61) =>
     some (.inl (out_60,out_61))
    | .inr r =>
     some (.inr r)) : Option (((List Int) × (List Int)) ⊕ ((Int × GTyped)))) >>= fun fl => match fl with
  | .inl (out_64,out_65) =>
   (impl_long out_64) >>= fun r_44_4 =>
   if r_44_4 = true then
    some (3,(GTyped.mk out_64 out_65 out1.fkids out1.ffault out1.fpath))
   else
    some (0,(GTyped.mk out_64 out_65 out1.fkids out1.ffault out1.fpath))
  | .inr r =>
   some r
def M_impl_typerfinish (p : GTyper × GTyped × (List (List Int)) × GTerm × (List (List Int)) × (List (List Int))) (r : Int × GTyped) : Prop :=
 match p with
 | (p0,out1,ctx2,t3,needs4,used5) => FnSound Tryz.prog 179 [aTyper p0,.optr [oI out1.fty,oI out1.fneeds,.osl (List.map PGTyped_S out1.fkids),I out1.ffault,oI out1.fpath],sL ctx2,aTerm t3,sL needs4,sL used5] (I r.1) [.undef,.optr [.sl (List.map I r.2.fty),.sl (List.map I r.2.fneeds),.sl (List.map PGTyped_S r.2.fkids),I r.2.ffault,.sl (List.map I r.2.fpath)],.undef,.undef,.undef,.undef]
theorem impl_typerfinish_s : ∀ p r,impl_typerfinish p = some r → M_impl_typerfinish p r := by
 rintro ⟨p0,out1,ctx2,t3,needs4,used5⟩ r h
 unfold impl_typerfinish at h
 refine FnSound.bodyO tiok (fn := Tryz.f179) (code := B179) (by kernel_rfl) (by kernel_rfl) (by kernel_rfl) (nt := 362) (by kernel_rfl) (by kernel_rfl) (T := [(0,aTyper p0),(1,.ra 2000 0),(2,sL ctx2),(3,aTerm t3),(4,sL needs4),(5,sL used5)]) (O := [(2000,.box [.rs 2001,.rs 2002,.rs 2003,I out1.ffault,.rs 2004]),(2001,rI out1.fty),(2002,rI out1.fneeds),(2003,.arr (List.map PGTyped_S out1.fkids)),(2004,rI out1.fpath)]) (by kernel_rfl) (by kernel_rfl) (fun c hc => ?_)
 refine vz 2001 (sh_I out1.fty) [(0,aTyper p0),(1,.ra 2000 0),(2,sL ctx2),(3,aTerm t3),(4,sL needs4),(5,sL used5)] [(2000,.box [sI out1.fty,.rs 2002,.rs 2003,I out1.ffault,.rs 2004]),(2002,rI out1.fneeds),(2003,.arr (List.map PGTyped_S out1.fkids)),(2004,rI out1.fpath)] ?_
 refine vz 2003 (sh_PGTyped_S out1.fkids) [(0,aTyper p0),(1,.ra 2000 0),(2,sL ctx2),(3,aTerm t3),(4,sL needs4),(5,sL used5)] [(2000,.box [sI out1.fty,.rs 2002,.sl (List.map PGTyped_S out1.fkids),I out1.ffault,.rs 2004]),(2002,rI out1.fneeds),(2004,rI out1.fpath)] ?_
 refine vz 2004 (sh_I out1.fpath) [(0,aTyper p0),(1,.ra 2000 0),(2,sL ctx2),(3,aTerm t3),(4,sL needs4),(5,sL used5)] [(2000,.box [sI out1.fty,.rs 2002,.sl (List.map PGTyped_S out1.fkids),I out1.ffault,sI out1.fpath]),(2002,rI out1.fneeds)] ?_
 refine rs hc none [some (.new 1),some (.new 2),some (.new 3),oN] [(2,sL ctx2),(4,sL needs4),(5,sL used5),(6,.ra 1 0),(7,.ra 2 0),(9,.ra 3 0)] [(1,bTyper p0),(2,.box [.ra 2000 0]),(3,bTerm t3),(2000,.box [sI out1.fty,.rs 2002,.sl (List.map PGTyped_S out1.fkids),I out1.ffault,sI out1.fpath]),(2002,rI out1.fneeds)] trivial ?_
 refine rs0 hc 2 [(2,sL ctx2),(4,sL needs4),(5,sL used5),(6,.ra 1 0),(7,.ra 2 0),(9,.ra 3 0),(13,.fn 220 [.ra 2 0])] [(1,bTyper p0),(2,.box [.ra 2000 0]),(3,bTerm t3),(2000,.box [sI out1.fty,.rs 2002,.sl (List.map PGTyped_S out1.fkids),I out1.ffault,sI out1.fpath]),(2002,rI out1.fneeds)] ?_
 refine sN ?_
 refine rs0 hc 2 [(2,sL ctx2),(4,sL needs4),(5,sL used5),(6,.ra 1 0),(7,.ra 2 0),(9,.ra 3 0),(13,.fn 220 [.ra 2 0]),(20,I t3.fOp)] [(1,bTyper p0),(2,.box [.ra 2000 0]),(3,bTerm t3),(2000,.box [sI out1.fty,.rs 2002,.sl (List.map PGTyped_S out1.fkids),I out1.ffault,sI out1.fpath]),(2002,rI out1.fneeds)] ?_
 refine bk 0 ?_
 refine rs0 hc 2 [(2,sL ctx2),(4,sL needs4),(5,sL used5),(6,.ra 1 0),(7,.ra 2 0),(9,.ra 3 0),(13,.fn 220 [.ra 2 0]),(20,I t3.fOp),(21,.bool (t3.fOp == 0))] [(1,bTyper p0),(2,.box [.ra 2000 0]),(3,bTerm t3),(2000,.box [sI out1.fty,.rs 2002,.sl (List.map PGTyped_S out1.fkids),I out1.ffault,sI out1.fpath]),(2002,rI out1.fneeds)] ?_
 obtain ⟨fl,hj_66,h⟩ := bsome h
 refine flw (impl_typerfinish_F13 c p0 out1 ctx2 t3 needs4 used5 fl) ?_ (fun hF => ?_)
 ·replace h := hj_66
  rcases is h with ⟨hb_1,h⟩ | ⟨hb_1,h⟩
  ·refine cT ((t3.fOp == 0)) hb_1 ?_
   obtain ⟨e_4_4,hi_4_4,h⟩ := bsome h
   obtain ⟨r_4_6,hr_4_6,h⟩ := bsome h
   refine rs hc (rx [[0],[0],[0],[0,2],[0,1,2,3],[0,1,2,3,4],[0,1,2,3,4,5],[7],[8],[9]]) [oN,oN,oN,oN,some (.el (sI e_4_4)),oN,some (.call (oI r_4_6) [] 4),oN,oN,oN] [(7,.ra 2 0),(9,.ra 3 0)] [(2,.box [.ra 2000 0]),(3,bTerm t3),(4,rI r_4_6),(2000,.box [.rs 4,.rs 2002,.sl (List.map PGTyped_S out1.fkids),I out1.ffault,sI out1.fpath]),(2002,rI out1.fneeds)] (ai (idx_sl (enc := LI_s) (x := sI e_4_4) hi_4_4 (eq_LI_s e_4_4)) (ai (slices_Clone_int_s _ _ hr_4_6) (ai bod_77 (ai (oi (oI r_4_6)) trivial)))) ?_
   obtain ⟨e_5_6,hi_5_6,h⟩ := bsome h
   refine rg hc (rx [[0],[1],[2],[3],[0],[0,4],[6],[7]]) [oN,oN,oN,oN,oN,oN,oN,some (.eqv (.mk 0 true) ⟨[],[(2002,some (.arr (List.map I (List.set out1.fneeds (Int.toNat t3.fN) 1))))],[]⟩)] [(7,.ra 2 0)] [(2,.box [.ra 2000 0]),(4,rI r_4_6),(2000,.box [.rs 4,.rs 2002,.sl (List.map PGTyped_S out1.fkids),I out1.ffault,sI out1.fpath]),(2002,.arr (List.map I (List.set out1.fneeds (Int.toNat t3.fN) 1)))] (ai (idx_own (enc := I) hi_5_6) (ai (congrArg (fun z => (⟨[],[(2002,some (.arr z))],[]⟩ : Wr)) (set_row (enc := I) (i := Int.toNat t3.fN) (l := out1.fneeds) (v := 1) (x := I 1) (eq_I 1))) (ai (own_set (enc := I) (sz := 1) sz_I hi_5_6) trivial))) ?_
   obtain rfl := os h
   exact Into.view (fun a w hv => SRx.renL [] (SRx.frzC 2002 (xs := List.map I (List.set out1.fneeds (Int.toNat t3.fN) 1)) (xs' := List.map I (List.set out1.fneeds (Int.toNat t3.fN) 1)) (SRx.frzC 4 (xs := List.map I r_4_6) (xs' := List.map I r_4_6) hv (by kernel_rfl) (sh_I _)) (by kernel_rfl) (sh_I _)) (by kernel_rfl) (by kernel_rfl) (by kernel_rfl))
  refine cF ((t3.fOp == 0)) hb_1 ?_
  refine rs0 hc 2 [(4,sL needs4),(5,sL used5),(6,.ra 1 0),(7,.ra 2 0),(9,.ra 3 0),(13,.fn 220 [.ra 2 0]),(20,I t3.fOp),(39,.bool (t3.fOp == 1))] [(1,bTyper p0),(2,.box [.ra 2000 0]),(3,bTerm t3),(2000,.box [sI out1.fty,.rs 2002,.sl (List.map PGTyped_S out1.fkids),I out1.ffault,sI out1.fpath]),(2002,rI out1.fneeds)] ?_
  obtain ⟨fl,hj_62,h⟩ := bsome h
  refine flw (impl_typerfinish_F12 c p0 out1 ctx2 t3 needs4 used5 fl) ?_ (fun hF => ?_)
  ·replace h := hj_62
   rcases is h with ⟨hb_2,h⟩ | ⟨hb_2,h⟩
   ·refine cT ((t3.fOp == 1)) hb_2 ?_
    refine rg hc none [oN,some (.mk 5 true),oN,oN,oN] [(7,.ra 2 0)] [(2,.box [.ra 2000 0]),(5,.arr (List.map I [0])),(2000,.box [.rs 5,.rs 2002,.sl (List.map PGTyped_S out1.fkids),I out1.ffault,sI out1.fpath]),(2002,rI out1.fneeds)] trivial ?_
    obtain rfl := os h
    exact Into.view (fun a w hv => SRx.renL [] (SRx.frzC 2002 (xs := List.map I out1.fneeds) (xs' := List.map I out1.fneeds) (SRx.frzC 5 (xs := List.map I [0]) (xs' := List.map I [0]) hv (by kernel_rfl) (sh_I _)) (by kernel_rfl) (sh_I _)) (by kernel_rfl) (by kernel_rfl) (by kernel_rfl))
   refine cF ((t3.fOp == 1)) hb_2 ?_
   refine rs0 hc 2 [(4,sL needs4),(5,sL used5),(6,.ra 1 0),(7,.ra 2 0),(9,.ra 3 0),(13,.fn 220 [.ra 2 0]),(20,I t3.fOp),(45,.bool (t3.fOp == 2))] [(1,bTyper p0),(2,.box [.ra 2000 0]),(3,bTerm t3),(2000,.box [sI out1.fty,.rs 2002,.sl (List.map PGTyped_S out1.fkids),I out1.ffault,sI out1.fpath]),(2002,rI out1.fneeds)] ?_
   obtain ⟨fl,hj_59,h⟩ := bsome h
   refine flw (impl_typerfinish_F11 c p0 out1 ctx2 t3 needs4 used5 fl) ?_ (fun hF => ?_)
   ·replace h := hj_59
    rcases is h with ⟨hb_3,h⟩ | ⟨hb_3,h⟩
    ·refine cT ((t3.fOp == 2)) hb_3 ?_
     obtain ⟨e_9_5,hi_9_5,h⟩ := bsome h
     obtain ⟨e_9_8,hi_9_8,h⟩ := bsome h
     obtain ⟨r_9_10,hr_9_10,h⟩ := bsome h
     refine rg hc (rx [[0],[0],[0],[0],[0],[0,4],[0,4,5],[0],[0,7],[0,7,8],[0,3,4,5,6,7,8,9],[1,2,3,4,5,6,7,8,9,10],[1,2,3,4,5,6,7,8,9,10,11],[1,2,3,4,5,6,7,8,9,10,11,12],[14],[15],[16]]) [oN,oN,some (.mk 6 true),oN,oN,some (.el (sI e_9_5)),oN,oN,some (.el (sI e_9_8)),oN,some (.call (oI r_9_10) [] 7),oN,oN,oN,oN,oN,oN] [(7,.ra 2 0)] [(2,.box [.ra 2000 0]),(6,.arr (List.map I [0])),(7,rI r_9_10),(2000,.box [.rs 6,.rs 7,.sl (List.map PGTyped_S out1.fkids),I out1.ffault,sI out1.fpath])] (ai (idx_sl (enc := LI_s) (x := sI e_9_5) hi_9_5 (eq_LI_s e_9_5)) (ai (idx_sl (enc := LI_s) (x := sI e_9_8) hi_9_8 (eq_LI_s e_9_8)) (ai (impl_typersum_s _ _ hr_9_10) (ai bod_221 (ai (oi (oI r_9_10)) trivial))))) ?_
     obtain rfl := os h
     exact Into.view (fun a w hv => SRx.renL [] (SRx.frzC 7 (xs := List.map I r_9_10) (xs' := List.map I r_9_10) (SRx.frzC 6 (xs := List.map I [0]) (xs' := List.map I [0]) hv (by kernel_rfl) (sh_I _)) (by kernel_rfl) (sh_I _)) (by kernel_rfl) (by kernel_rfl) (by kernel_rfl))
    refine cF ((t3.fOp == 2)) hb_3 ?_
    refine rs0 hc 2 [(4,sL needs4),(5,sL used5),(6,.ra 1 0),(7,.ra 2 0),(9,.ra 3 0),(13,.fn 220 [.ra 2 0]),(20,I t3.fOp),(62,.bool (t3.fOp == 3))] [(1,bTyper p0),(2,.box [.ra 2000 0]),(3,bTerm t3),(2000,.box [sI out1.fty,.rs 2002,.sl (List.map PGTyped_S out1.fkids),I out1.ffault,sI out1.fpath]),(2002,rI out1.fneeds)] ?_
    obtain ⟨fl,hj_55,h⟩ := bsome h
    refine flw (impl_typerfinish_F10 c p0 out1 ctx2 t3 needs4 used5 fl) ?_ (fun hF => ?_)
    ·replace h := hj_55
     rcases is h with ⟨hb_4,h⟩ | ⟨hb_4,h⟩
     ·refine cT ((t3.fOp == 3)) hb_4 ?_
      refine sN ?_
      refine sN ?_
      refine vz 2002 (sh_I out1.fneeds) [(4,sL needs4),(5,sL used5),(6,.ra 1 0),(7,.ra 2 0),(9,.ra 3 0),(13,.fn 220 [.ra 2 0]),(20,I t3.fOp),(62,.bool (t3.fOp == 3))] [(1,bTyper p0),(2,.box [.ra 2000 0]),(3,bTerm t3),(2000,bTyped out1)] ?_
      obtain ⟨r_11_1,hr_11_1,h⟩ := bsome h
      obtain ⟨r_11_3,hr_11_3,h⟩ := bsome h
      obtain ⟨r_11_4,hr_11_4,h⟩ := bsome h
      refine rg hc none [oN,some (.el (sI r_11_1)),oN,some (.el (sI r_11_3)),oc (.bool r_11_4),oN] [(4,sL needs4),(6,.ra 1 0),(7,.ra 2 0),(13,.fn 220 [.ra 2 0]),(69,.bool (!r_11_4))] [(1,bTyper p0),(2,.box [.ra 2000 0]),(2000,bTyped out1)] (ai (impl_typerfinish_c1_s _ _ hr_11_1) (ai bod_220 (ai (impl_typerfinish_c1_s _ _ hr_11_3) (ai bod_220 (ai (slices_Equal_int_s _ _ hr_11_4) (ai bod_84 (ai (oi (.bool r_11_4)) trivial))))))) ?_
      rcases is h with ⟨hb_5,h⟩ | ⟨hb_5,h⟩
      ·refine cF (!r_11_4) (nF hb_5) ?_
       refine sk ?_
       obtain ⟨r_13_3,hr_13_3,h⟩ := bsome h
       obtain ⟨e_13_6,hi_13_6,h⟩ := bsome h
       obtain ⟨e_13_10,hi_13_10,h⟩ := bsome h
       obtain ⟨e_13_13,hi_13_13,h⟩ := bsome h
       obtain ⟨r_13_15,hr_13_15,h⟩ := bsome h
       obtain ⟨r_13_16,hr_13_16,h⟩ := bsome h
       refine rg hc (rx [[0],[0],[0],[0,2],[0],[0],[0,5],[0,5,6],[0],[0],[0,9],[0,9,10],[0],[0,12],[0,12,13],[0,2,3,8,9,10,11,12,13,14],[0,2,3,4,5,6,7,8,9,10,11,12,13,14,15],[1,2,3,4,5,6,7,8,9,10,11,12,13,14,15,16],[1,2,3,4,5,6,7,8,9,10,11,12,13,14,15,16,17],[1,2,3,4,5,6,7,8,9,10,11,12,13,14,15,16,17,18],[20],[21],[22]]) [oN,oN,oN,some (.el (sI r_13_3)),oN,oN,some (.el (sI e_13_6)),oN,oN,oN,some (.el (sI e_13_10)),oN,oN,some (.el (sI e_13_13)),oN,some (.call (oI r_13_15) [] 8),some (.call (oI r_13_16) [] 9),oN,oN,oN,oN,oN,oN] [(7,.ra 2 0)] [(2,.box [.ra 2000 0]),(9,rI r_13_16),(2000,.box [sI r_13_3,.rs 9,.sl (List.map PGTyped_S out1.fkids),I out1.ffault,sI out1.fpath])] (ai (impl_typerfinish_c1_s _ _ hr_13_3) (ai bod_220 (ai (idx_sl (enc := LI_s) (x := sI e_13_6) hi_13_6 (eq_LI_s e_13_6)) (ai (idx_sl (enc := LI_s) (x := sI e_13_10) hi_13_10 (eq_LI_s e_13_10)) (ai (idx_sl (enc := LI_s) (x := sI e_13_13) hi_13_13 (eq_LI_s e_13_13)) (ai (impl_typerjoin_s _ _ hr_13_15) (ai bod_222 (ai (oi (oI r_13_15)) (ai (FnSound.args (A1 := [aTyper p0,sI e_13_6,.sl (shares (List.map I r_13_15))]) (A2 := [aTyper p0,sI e_13_6,sI r_13_15]) (by simp only [sI,sB,sL,aSystem,aTerm,aL3Told,aTyped,aTyper,hSystem,hTerm,hL3Told,hTyped,hTyper,List.map_nil,sh_I]) (impl_typersum_s _ _ hr_13_16)) (ai bod_221 (ai (Or.inr (nsh_row nsh_I r_13_16) : ([8] : List Nat) = [] ∨ noSh (oI r_13_16) = true) trivial))))))))))) ?_
       obtain rfl := os h
       exact Into.view (fun a w hv => SRx.renL [] (SRx.frzC 9 (xs := List.map I r_13_16) (xs' := List.map I r_13_16) hv (by kernel_rfl) (sh_I _)) (by kernel_rfl) (by kernel_rfl) (by kernel_rfl))
      refine cT (!r_11_4) (nT hb_5) ?_
      refine rs0 hc 1 [(12,I 3)] [(2000,bTyped out1)] ?_
      refine rt ?_
      obtain rfl := os h
      exact RetOE.ret (fl := [true]) (by kernel_rfl)
     refine cF ((t3.fOp == 3)) hb_4 ?_
     refine rs0 hc 2 [(4,sL needs4),(5,sL used5),(6,.ra 1 0),(7,.ra 2 0),(9,.ra 3 0),(13,.fn 220 [.ra 2 0]),(20,I t3.fOp),(91,.bool (t3.fOp == 4))] [(1,bTyper p0),(2,.box [.ra 2000 0]),(3,bTerm t3),(2000,.box [sI out1.fty,.rs 2002,.sl (List.map PGTyped_S out1.fkids),I out1.ffault,sI out1.fpath]),(2002,rI out1.fneeds)] ?_
     obtain ⟨fl,hj_51,h⟩ := bsome h
     refine flw (impl_typerfinish_F9 c p0 out1 ctx2 t3 needs4 used5 fl) ?_ (fun hF => ?_)
     ·replace h := hj_51
      rcases is h with ⟨hb_6,h⟩ | ⟨hb_6,h⟩
      ·refine cT ((t3.fOp == 4)) hb_6 ?_
       refine vz 2002 (sh_I out1.fneeds) [(4,sL needs4),(5,sL used5),(6,.ra 1 0),(7,.ra 2 0),(9,.ra 3 0),(13,.fn 220 [.ra 2 0]),(20,I t3.fOp),(91,.bool (t3.fOp == 4))] [(1,bTyper p0),(2,.box [.ra 2000 0]),(3,bTerm t3),(2000,bTyped out1)] ?_
       obtain ⟨r_15_4,hr_15_4,h⟩ := bsome h
       obtain ⟨r_15_6,hr_15_6,h⟩ := bsome h
       obtain ⟨r_15_8,hr_15_8,h⟩ := bsome h
       obtain ⟨e_15_11,hi_15_11,h⟩ := bsome h
       obtain ⟨e_15_14,hi_15_14,h⟩ := bsome h
       obtain ⟨r_15_16,hr_15_16,h⟩ := bsome h
       refine rg hc (rx [[0],[0],[0],[0],[0,3],[0],[0,3,4,5],[0,2,3,4,5,6],[0,2,3,4,5,6,7],[0],[0],[0,10],[0,10,11],[0],[0,13],[0,13,14],[0,2,3,4,5,6,7,8,9,10,11,12,13,14,15],[1,2,3,4,5,6,7,8,9,10,11,12,13,14,15,16],[1,2,3,4,5,6,7,8,9,10,11,12,13,14,15,16,17],[1,2,3,4,5,6,7,8,9,10,11,12,13,14,15,16,17,18],[20],[21],[22]]) [oN,oN,some (.mk 11 true),oN,some (.el (sI r_15_4)),oN,some (.el (sI r_15_6)),some (.mk 12 true),some (.call (sI r_15_8) [.tup []] 1),oN,oN,some (.el (sI e_15_11)),oN,oN,some (.el (sI e_15_14)),oN,some (.call (oI r_15_16) [] 13),oN,oN,oN,oN,oN,oN] [(7,.ra 2 0)] [(2,.box [.ra 2000 0]),(13,rI r_15_16),(2000,.box [sI r_15_8,.rs 13,.sl (List.map PGTyped_S out1.fkids),I out1.ffault,sI out1.fpath])] (ai (impl_typerfinish_c1_s _ _ hr_15_4) (ai bod_220 (ai (impl_typerfinish_c1_s _ _ hr_15_6) (ai bod_220 (ai (FnSound.args (A1 := [.sl (shares [AV.osl (List.map I [1]),sI r_15_4,sI r_15_6])]) (A2 := [.sl (List.map LI_s [[1],r_15_4,r_15_6])]) (by simp only [sI,sB,sL,aSystem,aTerm,aL3Told,aTyped,aTyper,hSystem,hTerm,hL3Told,hTyped,hTyper,List.map_cons,List.map_nil,eq_LI_s,sh_I,share,share_I,shares]) (slices_Concat_int_s _ _ hr_15_8)) (ai bod_223 (ai (idx_sl (enc := LI_s) (x := sI e_15_11) hi_15_11 (eq_LI_s e_15_11)) (ai (idx_sl (enc := LI_s) (x := sI e_15_14) hi_15_14 (eq_LI_s e_15_14)) (ai (impl_typersum_s _ _ hr_15_16) (ai bod_221 (ai (oi (oI r_15_16)) trivial))))))))))) ?_
       obtain rfl := os h
       exact Into.view (fun a w hv => SRx.renL [] (SRx.frzC 13 (xs := List.map I r_15_16) (xs' := List.map I r_15_16) hv (by kernel_rfl) (sh_I _)) (by kernel_rfl) (by kernel_rfl) (by kernel_rfl))
      refine cF ((t3.fOp == 4)) hb_6 ?_
      refine rs0 hc 2 [(4,sL needs4),(5,sL used5),(6,.ra 1 0),(7,.ra 2 0),(9,.ra 3 0),(13,.fn 220 [.ra 2 0]),(20,I t3.fOp),(114,.bool (t3.fOp == 5))] [(1,bTyper p0),(2,.box [.ra 2000 0]),(3,bTerm t3),(2000,.box [sI out1.fty,.rs 2002,.sl (List.map PGTyped_S out1.fkids),I out1.ffault,sI out1.fpath]),(2002,rI out1.fneeds)] ?_
      obtain ⟨fl,hj_47,h⟩ := bsome h
      refine flw (impl_typerfinish_F8 c p0 out1 ctx2 t3 needs4 used5 fl) ?_ (fun hF => ?_)
      ·replace h := hj_47
       rcases is h with ⟨hb_7,h⟩ | ⟨hb_7,h⟩
       ·refine cT ((t3.fOp == 5)) hb_7 ?_
        refine sN ?_
        obtain ⟨e_17_2,hi_17_2,h⟩ := bsome h
        obtain ⟨r_17_6,hr_17_6,h⟩ := bsome h
        refine rs hc ah10_0 [oN,oN,some (.el (sI e_17_2)),oN,oN,oN,oc (.bool r_17_6),oN] [(4,sL needs4),(6,.ra 1 0),(7,.ra 2 0),(9,.ra 3 0),(13,.fn 220 [.ra 2 0]),(123,.bool (!r_17_6))] [(1,bTyper p0),(2,.box [.ra 2000 0]),(3,bTerm t3),(2000,.box [sI out1.fty,.rs 2002,.sl (List.map PGTyped_S out1.fkids),I out1.ffault,sI out1.fpath]),(2002,rI out1.fneeds)] (ai (idx_sl (enc := LI_s) (x := sI e_17_2) hi_17_2 (eq_LI_s e_17_2)) (ai (impl_typerusedOk_s _ _ hr_17_6) (ai bod_224 (ai (oi (.bool r_17_6)) trivial)))) ?_
        rcases is h with ⟨hb_8,h⟩ | ⟨hb_8,h⟩
        ·refine cF (!r_17_6) (nF hb_8) ?_
         refine sk ?_
         refine vz 2002 (sh_I out1.fneeds) [(4,sL needs4),(6,.ra 1 0),(7,.ra 2 0),(9,.ra 3 0),(13,.fn 220 [.ra 2 0]),(123,.bool (!r_17_6))] [(1,bTyper p0),(2,.box [.ra 2000 0]),(3,bTerm t3),(2000,bTyped out1)] ?_
         obtain ⟨r_19_3,hr_19_3,h⟩ := bsome h
         obtain ⟨e_19_9,hi_19_9,h⟩ := bsome h
         obtain ⟨r_19_11,hr_19_11,h⟩ := bsome h
         obtain ⟨e_19_13,hi_19_13,h⟩ := bsome h
         obtain ⟨r_19_15,hr_19_15,h⟩ := bsome h
         refine rg hc ah10_1 [oN,oN,oN,some (.el (sI r_19_3)),oN,oN,oN,oN,oN,some (.el (sI e_19_9)),oN,some (.call (oI r_19_11) [] 14),oN,some (.el (sI e_19_13)),oN,some (.call (oI r_19_15) [] 15),oN,oN,oN,oN,oN,oN] [(7,.ra 2 0)] [(2,.box [.ra 2000 0]),(15,rI r_19_15),(2000,.box [sI r_19_3,.rs 15,.sl (List.map PGTyped_S out1.fkids),I out1.ffault,sI out1.fpath])] (ai (impl_typerfinish_c1_s _ _ hr_19_3) (ai bod_220 (ai (idx_sl (enc := LI_s) (x := sI e_19_9) hi_19_9 (eq_LI_s e_19_9)) (ai (impl_typerscaled_s _ _ hr_19_11) (ai bod_225 (ai (oi (oI r_19_11)) (ai (idx_sl (enc := LI_s) (x := sI e_19_13) hi_19_13 (eq_LI_s e_19_13)) (ai (FnSound.args (A1 := [aTyper p0,.sl (shares (List.map I r_19_11)),sI e_19_13]) (A2 := [aTyper p0,sI r_19_11,sI e_19_13]) (by simp only [sI,sB,sL,aSystem,aTerm,aL3Told,aTyped,aTyper,hSystem,hTerm,hL3Told,hTyped,hTyper,List.map_nil,sh_I]) (impl_typersum_s _ _ hr_19_15)) (ai bod_221 (ai (Or.inr (nsh_row nsh_I r_19_15) : ([14] : List Nat) = [] ∨ noSh (oI r_19_15) = true) trivial)))))))))) ?_
         obtain rfl := os h
         exact Into.view (fun a w hv => SRx.renL [] (SRx.frzC 15 (xs := List.map I r_19_15) (xs' := List.map I r_19_15) hv (by kernel_rfl) (sh_I _)) (by kernel_rfl) (by kernel_rfl) (by kernel_rfl))
        refine cT (!r_17_6) (nT hb_8) ?_
        refine rs0 hc 1 [(12,I 9)] [(2000,.box [sI out1.fty,.rs 2002,.sl (List.map PGTyped_S out1.fkids),I out1.ffault,sI out1.fpath]),(2002,rI out1.fneeds)] ?_
        refine vz 2002 (sh_I out1.fneeds) [(12,I 9)] [(2000,bTyped out1)] ?_
        refine rt ?_
        obtain rfl := os h
        exact RetOE.ret (fl := [true]) (by kernel_rfl)
       refine cF ((t3.fOp == 5)) hb_7 ?_
       refine rs0 hc 2 [(4,sL needs4),(5,sL used5),(6,.ra 1 0),(7,.ra 2 0),(9,.ra 3 0),(13,.fn 220 [.ra 2 0]),(20,I t3.fOp),(144,.bool (t3.fOp == 6))] [(1,bTyper p0),(2,.box [.ra 2000 0]),(3,bTerm t3),(2000,.box [sI out1.fty,.rs 2002,.sl (List.map PGTyped_S out1.fkids),I out1.ffault,sI out1.fpath]),(2002,rI out1.fneeds)] ?_
       obtain ⟨fl,hj_43,h⟩ := bsome h
       refine flw (impl_typerfinish_F7 c p0 out1 ctx2 t3 needs4 used5 fl) ?_ (fun hF => ?_)
       ·replace h := hj_43
        rcases is h with ⟨hb_9,h⟩ | ⟨hb_9,h⟩
        ·refine cT ((t3.fOp == 6)) hb_9 ?_
         refine vz 2002 (sh_I out1.fneeds) [(4,sL needs4),(5,sL used5),(6,.ra 1 0),(7,.ra 2 0),(9,.ra 3 0),(13,.fn 220 [.ra 2 0]),(20,I t3.fOp),(144,.bool (t3.fOp == 6))] [(1,bTyper p0),(2,.box [.ra 2000 0]),(3,bTerm t3),(2000,bTyped out1)] ?_
         obtain ⟨r_21_4,hr_21_4,h⟩ := bsome h
         obtain ⟨r_21_8,hr_21_8,h⟩ := bsome h
         obtain ⟨e_21_10,hi_21_10,h⟩ := bsome h
         refine rg hc ah10_2 [oN,oN,some (.mk 17 true),oN,some (.el (sI r_21_4)),oN,oN,some (.mk 18 true),some (.call (sI r_21_8) [.tup []] 1),oN,some (.el (sI e_21_10)),oN,oN,oN,oN,oN,oN,oN] [(7,.ra 2 0)] [(2,.box [.ra 2000 0]),(2000,.box [sI r_21_8,sI e_21_10,.sl (List.map PGTyped_S out1.fkids),I out1.ffault,sI out1.fpath])] (ai (impl_typerfinish_c1_s _ _ hr_21_4) (ai bod_220 (ai (FnSound.args (A1 := [.sl (shares [AV.osl (List.map I [2]),sI r_21_4,sI t3.fType])]) (A2 := [.sl (List.map LI_s [[2],r_21_4,t3.fType])]) (by simp only [sI,sB,sL,aSystem,aTerm,aL3Told,aTyped,aTyper,hSystem,hTerm,hL3Told,hTyped,hTyper,List.map_cons,List.map_nil,eq_LI_s,sh_I,share,share_I,shares]) (slices_Concat_int_s _ _ hr_21_8)) (ai bod_223 (ai (idx_sl (enc := LI_s) (x := sI e_21_10) hi_21_10 (eq_LI_s e_21_10)) trivial))))) ?_
         obtain rfl := os h
         exact Into.mk
        refine cF ((t3.fOp == 6)) hb_9 ?_
        refine rs0 hc 2 [(4,sL needs4),(5,sL used5),(6,.ra 1 0),(7,.ra 2 0),(9,.ra 3 0),(13,.fn 220 [.ra 2 0]),(20,I t3.fOp),(162,.bool (t3.fOp == 7))] [(1,bTyper p0),(2,.box [.ra 2000 0]),(3,bTerm t3),(2000,.box [sI out1.fty,.rs 2002,.sl (List.map PGTyped_S out1.fkids),I out1.ffault,sI out1.fpath]),(2002,rI out1.fneeds)] ?_
        obtain ⟨fl,hj_40,h⟩ := bsome h
        refine flw (impl_typerfinish_F6 c p0 out1 ctx2 t3 needs4 used5 fl) ?_ (fun hF => ?_)
        ·replace h := hj_40
         rcases is h with ⟨hb_10,h⟩ | ⟨hb_10,h⟩
         ·refine cT ((t3.fOp == 7)) hb_10 ?_
          refine vz 2002 (sh_I out1.fneeds) [(4,sL needs4),(5,sL used5),(6,.ra 1 0),(7,.ra 2 0),(9,.ra 3 0),(13,.fn 220 [.ra 2 0]),(20,I t3.fOp),(162,.bool (t3.fOp == 7))] [(1,bTyper p0),(2,.box [.ra 2000 0]),(3,bTerm t3),(2000,bTyped out1)] ?_
          obtain ⟨r_23_6,hr_23_6,h⟩ := bsome h
          obtain ⟨r_23_8,hr_23_8,h⟩ := bsome h
          obtain ⟨e_23_10,hi_23_10,h⟩ := bsome h
          refine rg hc ah10_2 [oN,oN,some (.mk 20 true),oN,oN,oN,some (.el (sI r_23_6)),some (.mk 21 true),some (.call (sI r_23_8) [.tup []] 1),oN,some (.el (sI e_23_10)),oN,oN,oN,oN,oN,oN,oN] [(7,.ra 2 0)] [(2,.box [.ra 2000 0]),(2000,.box [sI r_23_8,sI e_23_10,.sl (List.map PGTyped_S out1.fkids),I out1.ffault,sI out1.fpath])] (ai (impl_typerfinish_c1_s _ _ hr_23_6) (ai bod_220 (ai (FnSound.args (A1 := [.sl (shares [AV.osl (List.map I [2]),sI t3.fType,sI r_23_6])]) (A2 := [.sl (List.map LI_s [[2],t3.fType,r_23_6])]) (by simp only [sI,sB,sL,aSystem,aTerm,aL3Told,aTyped,aTyper,hSystem,hTerm,hL3Told,hTyped,hTyper,List.map_cons,List.map_nil,eq_LI_s,sh_I,share,share_I,shares]) (slices_Concat_int_s _ _ hr_23_8)) (ai bod_223 (ai (idx_sl (enc := LI_s) (x := sI e_23_10) hi_23_10 (eq_LI_s e_23_10)) trivial))))) ?_
          obtain rfl := os h
          exact Into.mk
         refine cF ((t3.fOp == 7)) hb_10 ?_
         refine rs0 hc 2 [(4,sL needs4),(5,sL used5),(6,.ra 1 0),(7,.ra 2 0),(9,.ra 3 0),(13,.fn 220 [.ra 2 0]),(20,I t3.fOp),(180,.bool (t3.fOp == 8))] [(1,bTyper p0),(2,.box [.ra 2000 0]),(3,bTerm t3),(2000,.box [sI out1.fty,.rs 2002,.sl (List.map PGTyped_S out1.fkids),I out1.ffault,sI out1.fpath]),(2002,rI out1.fneeds)] ?_
         obtain ⟨fl,hj_37,h⟩ := bsome h
         refine flw (impl_typerfinish_F5 c p0 out1 ctx2 t3 needs4 used5 fl) ?_ (fun hF => ?_)
         ·replace h := hj_37
          rcases is h with ⟨hb_11,h⟩ | ⟨hb_11,h⟩
          ·refine cT ((t3.fOp == 8)) hb_11 ?_
           refine sN ?_
           refine sN ?_
           refine vz 2002 (sh_I out1.fneeds) [(4,sL needs4),(5,sL used5),(6,.ra 1 0),(7,.ra 2 0),(9,.ra 3 0),(13,.fn 220 [.ra 2 0]),(20,I t3.fOp),(180,.bool (t3.fOp == 8))] [(1,bTyper p0),(2,.box [.ra 2000 0]),(3,bTerm t3),(2000,bTyped out1)] ?_
           obtain ⟨r_25_1,hr_25_1,h⟩ := bsome h
           obtain ⟨r_25_3,hr_25_3,h⟩ := bsome h
           obtain ⟨r_25_4,hr_25_4,h⟩ := bsome h
           refine rg hc none [oN,some (.el (sI r_25_1)),oN,some (.el (sI r_25_3)),oc (.bool r_25_4),oN] [(4,sL needs4),(5,sL used5),(6,.ra 1 0),(7,.ra 2 0),(9,.ra 3 0),(13,.fn 220 [.ra 2 0]),(187,.bool (!r_25_4))] [(1,bTyper p0),(2,.box [.ra 2000 0]),(3,bTerm t3),(2000,bTyped out1)] (ai (impl_typerfinish_c1_s _ _ hr_25_1) (ai bod_220 (ai (impl_typerfinish_c1_s _ _ hr_25_3) (ai bod_220 (ai (slices_Equal_int_s _ _ hr_25_4) (ai bod_84 (ai (oi (.bool r_25_4)) trivial))))))) ?_
           rcases is h with ⟨hb_12,h⟩ | ⟨hb_12,h⟩
           ·refine cF (!r_25_4) (nF hb_12) ?_
            refine sk ?_
            refine sN ?_
            refine sN ?_
            obtain ⟨v_13,hj_14,h⟩ := bsome h
            refine Wp.into (x := .normal) (mkS [(4,sL needs4),(6,.ra 1 0),(7,.ra 2 0),(9,.ra 3 0),(13,.fn 220 [.ra 2 0]),(205,.bool v_13)] [(1,bTyper p0),(2,.box [.ra 2000 0]),(3,bTerm t3),(2000,bTyped out1)]) ?_ ?_
            ·replace h := hj_14
             obtain ⟨e_27_2,hi_27_2,h⟩ := bsome h
             obtain ⟨r_27_6,hr_27_6,h⟩ := bsome h
             rcases is h with ⟨hb_27_0,h⟩ | ⟨hb_27_0,h⟩
             ·obtain ⟨e_27_11,hi_27_11,h⟩ := bsome h
              obtain ⟨r_27_15,hr_27_15,h⟩ := bsome h
              refine rg hc ah10_3 [oN,oN,some (.el (sI e_27_2)),oN,oN,oN,oc (.bool r_27_6),oN,oN,oN,oN,some (.el (sI e_27_11)),oN,oN,oN,oc (.bool r_27_15),oN,oF] [(4,sL needs4),(6,.ra 1 0),(7,.ra 2 0),(9,.ra 3 0),(13,.fn 220 [.ra 2 0]),(205,.bool (!r_27_15))] [(1,bTyper p0),(2,.box [.ra 2000 0]),(3,bTerm t3),(2000,bTyped out1)] (ai (idx_sl (enc := LI_s) (x := sI e_27_2) hi_27_2 (eq_LI_s e_27_2)) (ai (impl_typerusedOk_s _ _ hr_27_6) (ai bod_224 (ai (oi (.bool r_27_6)) (ar 3 (nF hb_27_0) (ai (idx_sl (enc := LI_s) (x := sI e_27_11) hi_27_11 (eq_LI_s e_27_11)) (ar 4 (nF hb_27_0) (ai (impl_typerusedOk_s _ _ hr_27_15) (ai bod_224 (ai (oi (.bool r_27_15)) (ar 2 (nF hb_27_0) trivial))))))))))) ?_
              obtain rfl := os h
              exact Into.mk
             refine rg hc ah10_3 [oN,oN,some (.el (sI e_27_2)),oN,oN,oN,oc (.bool r_27_6),oN,oN,o_,o_,o_,o_,o_,o_,o_,o_,oT] [(4,sL needs4),(6,.ra 1 0),(7,.ra 2 0),(9,.ra 3 0),(13,.fn 220 [.ra 2 0]),(205,.bool true)] [(1,bTyper p0),(2,.box [.ra 2000 0]),(3,bTerm t3),(2000,bTyped out1)] (ai (idx_sl (enc := LI_s) (x := sI e_27_2) hi_27_2 (eq_LI_s e_27_2)) (ai (impl_typerusedOk_s _ _ hr_27_6) (ai bod_224 (ai (oi (.bool r_27_6)) (ar 8 (neF (nT hb_27_0)) (ai (nT hb_27_0) trivial)))))) ?_
             obtain rfl := os h
             exact Into.mk
            clear hj_14
            rcases is h with ⟨hb_15,h⟩ | ⟨hb_15,h⟩
            ·refine cT v_13 hb_15 ?_
             refine rs0 hc 1 [(12,I 9)] [(2000,bTyped out1)] ?_
             refine rt ?_
             obtain rfl := os h
             exact RetOE.ret (fl := [true]) (by kernel_rfl)
            refine cF v_13 hb_15 ?_
            refine sk ?_
            obtain ⟨r_29_3,hr_29_3,h⟩ := bsome h
            obtain ⟨e_29_9,hi_29_9,h⟩ := bsome h
            obtain ⟨r_29_11,hr_29_11,h⟩ := bsome h
            obtain ⟨e_29_14,hi_29_14,h⟩ := bsome h
            obtain ⟨e_29_17,hi_29_17,h⟩ := bsome h
            obtain ⟨r_29_19,hr_29_19,h⟩ := bsome h
            obtain ⟨r_29_20,hr_29_20,h⟩ := bsome h
            refine rg hc (rx [[0],[0],[0],[0,2],[0],[0],[0],[0,6],[0],[0,8],[0,8,9],[0,2,3,5,6,7,8,9,10],[0],[0],[0,13],[0,13,14],[0],[0,16],[0,16,17],[0,2,3,5,6,7,8,9,10,11,12,13,14,15,16,17,18],[0,2,3,4,5,6,7,8,9,10,11,12,13,14,15,16,17,18,19],[1,2,3,4,5,6,7,8,9,10,11,12,13,14,15,16,17,18,19,20],[1,2,3,4,5,6,7,8,9,10,11,12,13,14,15,16,17,18,19,20,21],[1,2,3,4,5,6,7,8,9,10,11,12,13,14,15,16,17,18,19,20,21,22],[24],[25],[26]]) [oN,oN,oN,some (.el (sI r_29_3)),oN,oN,oN,oN,oN,some (.el (sI e_29_9)),oN,some (.call (oI r_29_11) [] 22),oN,oN,some (.el (sI e_29_14)),oN,oN,some (.el (sI e_29_17)),oN,some (.call (oI r_29_19) [] 23),some (.call (oI r_29_20) [] 24),oN,oN,oN,oN,oN,oN] [(7,.ra 2 0)] [(2,.box [.ra 2000 0]),(24,rI r_29_20),(2000,.box [sI r_29_3,.rs 24,.sl (List.map PGTyped_S out1.fkids),I out1.ffault,sI out1.fpath])] (ai (impl_typerfinish_c1_s _ _ hr_29_3) (ai bod_220 (ai (idx_sl (enc := LI_s) (x := sI e_29_9) hi_29_9 (eq_LI_s e_29_9)) (ai (impl_typerscaled_s _ _ hr_29_11) (ai bod_225 (ai (oi (oI r_29_11)) (ai (idx_sl (enc := LI_s) (x := sI e_29_14) hi_29_14 (eq_LI_s e_29_14)) (ai (idx_sl (enc := LI_s) (x := sI e_29_17) hi_29_17 (eq_LI_s e_29_17)) (ai (impl_typerjoin_s _ _ hr_29_19) (ai bod_222 (ai (oi (oI r_29_19)) (ai (FnSound.args (A1 := [aTyper p0,.sl (shares (List.map I r_29_11)),.sl (shares (List.map I r_29_19))]) (A2 := [aTyper p0,sI r_29_11,sI r_29_19]) (by simp only [sI,sB,sL,aSystem,aTerm,aL3Told,aTyped,aTyper,hSystem,hTerm,hL3Told,hTyped,hTyper,List.map_nil,sh_I]) (impl_typersum_s _ _ hr_29_20)) (ai bod_221 (ai (Or.inr (nsh_row nsh_I r_29_20) : ([22,23] : List Nat) = [] ∨ noSh (oI r_29_20) = true) trivial)))))))))))))) ?_
            obtain rfl := os h
            exact Into.view (fun a w hv => SRx.renL [] (SRx.frzC 24 (xs := List.map I r_29_20) (xs' := List.map I r_29_20) hv (by kernel_rfl) (sh_I _)) (by kernel_rfl) (by kernel_rfl) (by kernel_rfl))
           refine cT (!r_25_4) (nT hb_12) ?_
           refine rs0 hc 1 [(12,I 3)] [(2000,bTyped out1)] ?_
           refine rt ?_
           obtain rfl := os h
           exact RetOE.ret (fl := [true]) (by kernel_rfl)
          refine cF ((t3.fOp == 8)) hb_11 ?_
          refine rs0 hc 2 [(4,sL needs4),(5,sL used5),(6,.ra 1 0),(7,.ra 2 0),(9,.ra 3 0),(13,.fn 220 [.ra 2 0]),(20,I t3.fOp),(231,.bool (t3.fOp == 9))] [(1,bTyper p0),(2,.box [.ra 2000 0]),(3,bTerm t3),(2000,.box [sI out1.fty,.rs 2002,.sl (List.map PGTyped_S out1.fkids),I out1.ffault,sI out1.fpath]),(2002,rI out1.fneeds)] ?_
          obtain ⟨fl,hj_33,h⟩ := bsome h
          refine flw (impl_typerfinish_F4 c p0 out1 ctx2 t3 needs4 used5 fl) ?_ (fun hF => ?_)
          ·replace h := hj_33
           rcases is h with ⟨hb_16,h⟩ | ⟨hb_16,h⟩
           ·refine cT ((t3.fOp == 9)) hb_16 ?_
            refine sN ?_
            obtain ⟨e_31_2,hi_31_2,h⟩ := bsome h
            obtain ⟨r_31_6,hr_31_6,h⟩ := bsome h
            refine rs hc ah10_0 [oN,oN,some (.el (sI e_31_2)),oN,oN,oN,oc (.bool r_31_6),oN] [(4,sL needs4),(7,.ra 2 0),(9,.ra 3 0),(13,.fn 220 [.ra 2 0]),(240,.bool (!r_31_6))] [(2,.box [.ra 2000 0]),(3,bTerm t3),(2000,.box [sI out1.fty,.rs 2002,.sl (List.map PGTyped_S out1.fkids),I out1.ffault,sI out1.fpath]),(2002,rI out1.fneeds)] (ai (idx_sl (enc := LI_s) (x := sI e_31_2) hi_31_2 (eq_LI_s e_31_2)) (ai (impl_typerusedOk_s _ _ hr_31_6) (ai bod_224 (ai (oi (.bool r_31_6)) trivial)))) ?_
            rcases is h with ⟨hb_17,h⟩ | ⟨hb_17,h⟩
            ·refine cF (!r_31_6) (nF hb_17) ?_
             refine sk ?_
             refine vz 2002 (sh_I out1.fneeds) [(4,sL needs4),(7,.ra 2 0),(9,.ra 3 0),(13,.fn 220 [.ra 2 0]),(240,.bool (!r_31_6))] [(2,.box [.ra 2000 0]),(3,bTerm t3),(2000,bTyped out1)] ?_
             obtain ⟨r_33_9,hr_33_9,h⟩ := bsome h
             obtain ⟨r_33_11,hr_33_11,h⟩ := bsome h
             obtain ⟨e_33_13,hi_33_13,h⟩ := bsome h
             refine rg hc (rx [[0],[0],[0],[0,2],[0,2,3],[0,2,3,4],[0],[0,6],[0],[0,8],[0,2,3,4,5,6,7,8,9],[0,2,3,4,5,6,7,8,9,10],[0],[0,12],[0,12,13],[1,2,3,4,5,6,7,8,9,10,11,12,13,14],[1,2,3,4,5,6,7,8,9,10,11,12,13,14,15],[1,2,3,4,5,6,7,8,9,10,11,12,13,14,15,16],[18],[19],[20]]) [oN,oN,oN,oN,oN,some (.mk 26 true),oN,oN,oN,some (.el (sI r_33_9)),some (.mk 27 true),some (.call (sI r_33_11) [.tup []] 1),oN,some (.el (sI e_33_13)),oN,oN,oN,oN,oN,oN,oN] [(7,.ra 2 0)] [(2,.box [.ra 2000 0]),(2000,.box [sI r_33_11,sI e_33_13,.sl (List.map PGTyped_S out1.fkids),I out1.ffault,sI out1.fpath])] (ai (impl_typerfinish_c1_s _ _ hr_33_9) (ai bod_220 (ai (FnSound.args (A1 := [.sl (shares [AV.osl (List.map I [(wr (3 + t3.fN))]),sI t3.fType,sI r_33_9])]) (A2 := [.sl (List.map LI_s [[(wr (3 + t3.fN))],t3.fType,r_33_9])]) (by simp only [sI,sB,sL,aSystem,aTerm,aL3Told,aTyped,aTyper,hSystem,hTerm,hL3Told,hTyped,hTyper,List.map_cons,List.map_nil,eq_LI_s,sh_I,share,share_I,shares]) (slices_Concat_int_s _ _ hr_33_11)) (ai bod_223 (ai (idx_sl (enc := LI_s) (x := sI e_33_13) hi_33_13 (eq_LI_s e_33_13)) trivial))))) ?_
             obtain rfl := os h
             exact Into.mk
            refine cT (!r_31_6) (nT hb_17) ?_
            refine rs0 hc 1 [(12,I 9)] [(2000,.box [sI out1.fty,.rs 2002,.sl (List.map PGTyped_S out1.fkids),I out1.ffault,sI out1.fpath]),(2002,rI out1.fneeds)] ?_
            refine vz 2002 (sh_I out1.fneeds) [(12,I 9)] [(2000,bTyped out1)] ?_
            refine rt ?_
            obtain rfl := os h
            exact RetOE.ret (fl := [true]) (by kernel_rfl)
           refine cF ((t3.fOp == 9)) hb_16 ?_
           refine rs0 hc 2 [(4,sL needs4),(5,sL used5),(6,.ra 1 0),(7,.ra 2 0),(9,.ra 3 0),(13,.fn 220 [.ra 2 0]),(20,I t3.fOp),(260,.bool (t3.fOp == 10))] [(1,bTyper p0),(2,.box [.ra 2000 0]),(3,bTerm t3),(2000,.box [sI out1.fty,.rs 2002,.sl (List.map PGTyped_S out1.fkids),I out1.ffault,sI out1.fpath]),(2002,rI out1.fneeds)] ?_
           obtain ⟨fl,hj_30,h⟩ := bsome h
           refine flw (impl_typerfinish_F3 c p0 out1 ctx2 t3 needs4 used5 fl) ?_ (fun hF => ?_)
           ·replace h := hj_30
            rcases is h with ⟨hb_18,h⟩ | ⟨hb_18,h⟩
            ·refine cT ((t3.fOp == 10)) hb_18 ?_
             refine sN ?_
             refine vz 2002 (sh_I out1.fneeds) [(4,sL needs4),(5,sL used5),(6,.ra 1 0),(7,.ra 2 0),(9,.ra 3 0),(13,.fn 220 [.ra 2 0]),(20,I t3.fOp),(260,.bool (t3.fOp == 10))] [(1,bTyper p0),(2,.box [.ra 2000 0]),(3,bTerm t3),(2000,bTyped out1)] ?_
             obtain ⟨r_35_1,hr_35_1,h⟩ := bsome h
             obtain ⟨e_35_2,hi_35_2,h⟩ := bsome h
             obtain ⟨⟨r_35_4_0,r_35_4_1⟩,hr_35_4,h⟩ := bsome h
             refine rg hc none [oN,some (.el (sI r_35_1)),some (.el (I e_35_2)),oN,oc (.tup [I r_35_4_0,I r_35_4_1]),oN,oN,oN,oN,oN] [(4,sL needs4),(6,.ra 1 0),(7,.ra 2 0),(13,.fn 220 [.ra 2 0]),(15,I r_35_4_1)] [(1,bTyper p0),(2,.box [.ra 2000 0]),(2000,bTyped out1)] (ai (impl_typerfinish_c1_s _ _ hr_35_1) (ai bod_220 (ai (ix hi_35_2) (ai (impl_shape_s _ _ hr_35_4) (ai bod_182 (ai (oi (.tup [I r_35_4_0,I r_35_4_1])) trivial)))))) ?_
             obtain ⟨r_36_3,hr_36_3,h⟩ := bsome h
             obtain ⟨r_36_4,hr_36_4,h⟩ := bsome h
             obtain ⟨e_36_5,hi_36_5,h⟩ := bsome h
             obtain ⟨e_36_9,hi_36_9,h⟩ := bsome h
             obtain ⟨e_36_14,hi_36_14,h⟩ := bsome h
             obtain ⟨r_36_16,hr_36_16,h⟩ := bsome h
             obtain ⟨r_36_17,hr_36_17,h⟩ := bsome h
             refine rg hc (rx [[0],[0],[0],[0,2],[0,2,3],[0,2,3,4],[0,2,3,4,5],[0],[0],[0,8],[0,8,9],[0],[0],[0],[0,13],[0,13,14],[0,2,3,4,11,12,13,14,15],[0,2,3,4,7,8,9,10,11,12,13,14,15,16],[1,2,3,4,5,6,7,8,9,10,11,12,13,14,15,16,17],[1,2,3,4,5,6,7,8,9,10,11,12,13,14,15,16,17,18],[1,2,3,4,5,6,7,8,9,10,11,12,13,14,15,16,17,18,19],[21],[22],[23]]) [oN,oN,oN,some (.el (sI r_36_3)),some (.call (.osl (List.map LI_s r_36_4)) [] 28),oN,some (.el (sI e_36_5)),oN,oN,some (.el (sI e_36_9)),oN,oN,oN,oN,some (.el (sI e_36_14)),oN,some (.call (oI r_36_16) [] 29),some (.call (oI r_36_17) [] 30),oN,oN,oN,oN,oN,oN] [(7,.ra 2 0)] [(2,.box [.ra 2000 0]),(30,rI r_36_17),(2000,.box [sI e_36_5,.rs 30,.sl (List.map PGTyped_S out1.fkids),I out1.ffault,sI out1.fpath])] (ai (impl_typerfinish_c1_s _ _ hr_36_3) (ai bod_220 (ai (impl_parts_s _ _ hr_36_4) (ai bod_178 (ai (oi (.osl (List.map LI_s r_36_4))) (ai (idx_own (enc := LI_s) hi_36_5) (ai (idx_sl (enc := LI_s) (x := sI e_36_5) hi_36_5 (eq_LI_s e_36_5)).2 (ai (idx_sl (enc := LI_s) (x := sI e_36_9) hi_36_9 (eq_LI_s e_36_9)) (ai (idx_sl (enc := LI_s) (x := sI e_36_14) hi_36_14 (eq_LI_s e_36_14)) (ai (impl_typerscaled_s _ _ hr_36_16) (ai bod_225 (ai (oi (oI r_36_16)) (ai (FnSound.args (A1 := [aTyper p0,sI e_36_9,.sl (shares (List.map I r_36_16))]) (A2 := [aTyper p0,sI e_36_9,sI r_36_16]) (by simp only [sI,sB,sL,aSystem,aTerm,aL3Told,aTyped,aTyper,hSystem,hTerm,hL3Told,hTyped,hTyper,List.map_nil,sh_I]) (impl_typersum_s _ _ hr_36_17)) (ai bod_221 (ai (Or.inr (nsh_row nsh_I r_36_17) : ([29] : List Nat) = [] ∨ noSh (oI r_36_17) = true) trivial))))))))))))))) ?_
             obtain rfl := os h
             exact Into.mk
            refine cF ((t3.fOp == 10)) hb_18 ?_
            refine rs0 hc 2 [(4,sL needs4),(5,sL used5),(6,.ra 1 0),(7,.ra 2 0),(9,.ra 3 0),(13,.fn 220 [.ra 2 0]),(20,I t3.fOp),(292,.bool (t3.fOp == 11))] [(1,bTyper p0),(2,.box [.ra 2000 0]),(3,bTerm t3),(2000,.box [sI out1.fty,.rs 2002,.sl (List.map PGTyped_S out1.fkids),I out1.ffault,sI out1.fpath]),(2002,rI out1.fneeds)] ?_
            obtain ⟨fl,hj_27,h⟩ := bsome h
            refine flw (impl_typerfinish_F2 c p0 out1 ctx2 t3 needs4 used5 fl) ?_ (fun hF => ?_)
            ·replace h := hj_27
             rcases is h with ⟨hb_19,h⟩ | ⟨hb_19,h⟩
             ·refine cT ((t3.fOp == 11)) hb_19 ?_
              refine vz 2002 (sh_I out1.fneeds) [(4,sL needs4),(5,sL used5),(6,.ra 1 0),(7,.ra 2 0),(9,.ra 3 0),(13,.fn 220 [.ra 2 0]),(20,I t3.fOp),(292,.bool (t3.fOp == 11))] [(1,bTyper p0),(2,.box [.ra 2000 0]),(3,bTerm t3),(2000,bTyped out1)] ?_
              obtain ⟨r_38_7,hr_38_7,h⟩ := bsome h
              obtain ⟨r_38_9,hr_38_9,h⟩ := bsome h
              obtain ⟨e_38_14,hi_38_14,h⟩ := bsome h
              obtain ⟨r_38_16,hr_38_16,h⟩ := bsome h
              refine rg hc (rx [[0],[0],[0],[0,2],[0,2,3],[0,2,3,4],[0],[0,6],[0,2,3,4,5,6,7],[0,2,3,4,5,6,7,8],[0],[0],[0,11],[0],[0,13],[0,13,14],[0,2,3,4,5,6,7,8,9,10,11,12,13,14,15],[1,2,3,4,5,6,7,8,9,10,11,12,13,14,15,16],[1,2,3,4,5,6,7,8,9,10,11,12,13,14,15,16,17],[1,2,3,4,5,6,7,8,9,10,11,12,13,14,15,16,17,18],[20],[21],[22]]) [oN,oN,oN,oN,oN,some (.mk 32 true),oN,some (.el (sI r_38_7)),some (.mk 33 true),some (.call (sI r_38_9) [.tup []] 1),oN,oN,oN,oN,some (.el (sI e_38_14)),oN,some (.call (oI r_38_16) [] 34),oN,oN,oN,oN,oN,oN] [(7,.ra 2 0)] [(2,.box [.ra 2000 0]),(34,rI r_38_16),(2000,.box [sI r_38_9,.rs 34,.sl (List.map PGTyped_S out1.fkids),I out1.ffault,sI out1.fpath])] (ai (impl_typerfinish_c1_s _ _ hr_38_7) (ai bod_220 (ai (FnSound.args (A1 := [.sl (shares [AV.osl (List.map I [(wr (19 + t3.fN))]),sI r_38_7])]) (A2 := [.sl (List.map LI_s [[(wr (19 + t3.fN))],r_38_7])]) (by simp only [sI,sB,sL,aSystem,aTerm,aL3Told,aTyped,aTyper,hSystem,hTerm,hL3Told,hTyped,hTyper,List.map_cons,List.map_nil,eq_LI_s,sh_I,share,share_I,shares]) (slices_Concat_int_s _ _ hr_38_9)) (ai bod_223 (ai (idx_sl (enc := LI_s) (x := sI e_38_14) hi_38_14 (eq_LI_s e_38_14)) (ai (impl_typerscaled_s _ _ hr_38_16) (ai bod_225 (ai (oi (oI r_38_16)) trivial)))))))) ?_
              obtain rfl := os h
              exact Into.mk
             refine cF ((t3.fOp == 11)) hb_19 ?_
             refine rs0 hc 2 [(4,sL needs4),(5,sL used5),(6,.ra 1 0),(7,.ra 2 0),(9,.ra 3 0),(13,.fn 220 [.ra 2 0]),(315,.bool (t3.fOp == 12))] [(1,bTyper p0),(2,.box [.ra 2000 0]),(3,bTerm t3),(2000,.box [sI out1.fty,.rs 2002,.sl (List.map PGTyped_S out1.fkids),I out1.ffault,sI out1.fpath]),(2002,rI out1.fneeds)] ?_
             obtain ⟨fl,hj_24,h⟩ := bsome h
             refine flw (impl_typerfinish_F1 c p0 out1 ctx2 t3 needs4 used5 fl) ?_ (fun hF => ?_)
             ·replace h := hj_24
              rcases is h with ⟨hb_20,h⟩ | ⟨hb_20,h⟩
              ·refine cT ((t3.fOp == 12)) hb_20 ?_
               refine sN ?_
               refine vz 2002 (sh_I out1.fneeds) [(4,sL needs4),(5,sL used5),(6,.ra 1 0),(7,.ra 2 0),(9,.ra 3 0),(13,.fn 220 [.ra 2 0]),(315,.bool (t3.fOp == 12))] [(1,bTyper p0),(2,.box [.ra 2000 0]),(3,bTerm t3),(2000,bTyped out1)] ?_
               obtain ⟨r_40_1,hr_40_1,h⟩ := bsome h
               obtain ⟨e_40_2,hi_40_2,h⟩ := bsome h
               obtain ⟨⟨r_40_4_0,r_40_4_1⟩,hr_40_4,h⟩ := bsome h
               refine rg hc none [oN,some (.el (sI r_40_1)),some (.el (I e_40_2)),oN,oc (.tup [I r_40_4_0,I r_40_4_1]),oN,oN,oN,oN,oN] [(4,sL needs4),(5,sL used5),(6,.ra 1 0),(7,.ra 2 0),(9,.ra 3 0),(13,.fn 220 [.ra 2 0]),(17,I r_40_4_1)] [(1,bTyper p0),(2,.box [.ra 2000 0]),(3,bTerm t3),(2000,bTyped out1)] (ai (impl_typerfinish_c1_s _ _ hr_40_1) (ai bod_220 (ai (ix hi_40_2) (ai (impl_shape_s _ _ hr_40_4) (ai bod_182 (ai (oi (.tup [I r_40_4_0,I r_40_4_1])) trivial)))))) ?_
               refine sN ?_
               obtain ⟨e_41_2,hi_41_2,h⟩ := bsome h
               obtain ⟨r_41_9,hr_41_9,h⟩ := bsome h
               obtain ⟨r_41_10,hr_41_10,h⟩ := bsome h
               refine rs hc (rx [[0],[0],[0,1],[0,1,2],[0],[0,4],[0],[0,6],[0],[0,4,5,6,7,8],[10],[11]]) [oN,oN,some (.el (sI e_41_2)),oN,oN,oN,oN,oN,oN,oc (I r_41_9),oc (.bool r_41_10),oN] [(4,sL needs4),(6,.ra 1 0),(7,.ra 2 0),(9,.ra 3 0),(13,.fn 220 [.ra 2 0]),(336,.bool (!r_41_10))] [(1,bTyper p0),(2,.box [.ra 2000 0]),(3,bTerm t3),(2000,bTyped out1)] (ai (idx_sl (enc := LI_s) (x := sI e_41_2) hi_41_2 (eq_LI_s e_41_2)) (ai (impl_Systemtimes_s _ _ hr_41_9) (ai bod_170 (ai (oi (I r_41_9)) (ai (impl_typerusedOk_s _ _ hr_41_10) (ai bod_224 (ai (oi (.bool r_41_10)) trivial))))))) ?_
               rcases is h with ⟨hb_21,h⟩ | ⟨hb_21,h⟩
               ·refine cF (!r_41_10) (nF hb_21) ?_
                refine sk ?_
                obtain ⟨r_43_3,hr_43_3,h⟩ := bsome h
                obtain ⟨e_43_9,hi_43_9,h⟩ := bsome h
                obtain ⟨r_43_11,hr_43_11,h⟩ := bsome h
                obtain ⟨e_43_13,hi_43_13,h⟩ := bsome h
                obtain ⟨r_43_15,hr_43_15,h⟩ := bsome h
                refine rg hc ah10_1 [oN,oN,oN,some (.el (sI r_43_3)),oN,oN,oN,oN,oN,some (.el (sI e_43_9)),oN,some (.call (oI r_43_11) [] 35),oN,some (.el (sI e_43_13)),oN,some (.call (oI r_43_15) [] 36),oN,oN,oN,oN,oN,oN] [(7,.ra 2 0)] [(2,.box [.ra 2000 0]),(36,rI r_43_15),(2000,.box [sI r_43_3,.rs 36,.sl (List.map PGTyped_S out1.fkids),I out1.ffault,sI out1.fpath])] (ai (impl_typerfinish_c1_s _ _ hr_43_3) (ai bod_220 (ai (idx_sl (enc := LI_s) (x := sI e_43_9) hi_43_9 (eq_LI_s e_43_9)) (ai (impl_typerscaled_s _ _ hr_43_11) (ai bod_225 (ai (oi (oI r_43_11)) (ai (idx_sl (enc := LI_s) (x := sI e_43_13) hi_43_13 (eq_LI_s e_43_13)) (ai (FnSound.args (A1 := [aTyper p0,.sl (shares (List.map I r_43_11)),sI e_43_13]) (A2 := [aTyper p0,sI r_43_11,sI e_43_13]) (by simp only [sI,sB,sL,aSystem,aTerm,aL3Told,aTyped,aTyper,hSystem,hTerm,hL3Told,hTyped,hTyper,List.map_nil,sh_I]) (impl_typersum_s _ _ hr_43_15)) (ai bod_221 (ai (Or.inr (nsh_row nsh_I r_43_15) : ([35] : List Nat) = [] ∨ noSh (oI r_43_15) = true) trivial)))))))))) ?_
                obtain rfl := os h
                exact Into.mk
               refine cT (!r_41_10) (nT hb_21) ?_
               refine rs0 hc 1 [(12,I 9)] [(2000,bTyped out1)] ?_
               refine rt ?_
               obtain rfl := os h
               exact RetOE.ret (fl := [true]) (by kernel_rfl)
              refine cF ((t3.fOp == 12)) hb_20 ?_
              refine sk ?_
              obtain rfl := os h
              exact iv [(36,2002)]
             rcases fl with ⟨out_22,out_23⟩ | r
             ·refine Wp.into (x := .normal) (mkS [(7,.ra 2 0)] [(2,.box [.ra 2000 0]),(36,rI out_23),(2000,.box [sI out_22,.rs 36,.sl (List.map PGTyped_S out1.fkids),I out1.ffault,sI out1.fpath])]) hF ?_
              obtain rfl := os h
              exact iv [(34,36)]
             refine Wp.mono hF ?_
             rintro _ _ ⟨rfl,hfin⟩
             obtain rfl := os h
             exact ⟨rfl,hfin⟩
            rcases fl with ⟨out_25,out_26⟩ | r
            ·refine Wp.into (x := .normal) (mkS [(7,.ra 2 0)] [(2,.box [.ra 2000 0]),(34,rI out_26),(2000,.box [sI out_25,.rs 34,.sl (List.map PGTyped_S out1.fkids),I out1.ffault,sI out1.fpath])]) hF ?_
             obtain rfl := os h
             exact iv [(30,34)]
            refine Wp.mono hF ?_
            rintro _ _ ⟨rfl,hfin⟩
            obtain rfl := os h
            exact ⟨rfl,hfin⟩
           rcases fl with ⟨out_28,out_29⟩ | r
           ·refine Wp.into (x := .normal) (mkS [(7,.ra 2 0)] [(2,.box [.ra 2000 0]),(30,rI out_29),(2000,.box [sI out_28,.rs 30,.sl (List.map PGTyped_S out1.fkids),I out1.ffault,sI out1.fpath])]) hF ?_
            obtain rfl := os h
            exact Into.view (fun a w hv => SRx.renL [] (SRx.frzC 30 (xs := List.map I out_29) (xs' := List.map I out_29) hv (by kernel_rfl) (sh_I _)) (by kernel_rfl) (by kernel_rfl) (by kernel_rfl))
           refine Wp.mono hF ?_
           rintro _ _ ⟨rfl,hfin⟩
           obtain rfl := os h
           exact ⟨rfl,hfin⟩
          rcases fl with ⟨out_31,out_32⟩ | r
          ·refine Wp.into (x := .normal) (mkS [(7,.ra 2 0)] [(2,.box [.ra 2000 0]),(2000,.box [sI out_31,sI out_32,.sl (List.map PGTyped_S out1.fkids),I out1.ffault,sI out1.fpath])]) hF ?_
           obtain rfl := os h
           exact Into.mk
          refine Wp.mono hF ?_
          rintro _ _ ⟨rfl,hfin⟩
          obtain rfl := os h
          exact ⟨rfl,hfin⟩
         rcases fl with ⟨out_34,out_36⟩ | r
         ·refine Wp.into (x := .normal) (mkS [(7,.ra 2 0)] [(2,.box [.ra 2000 0]),(2000,.box [sI out_34,sI out_36,.sl (List.map PGTyped_S out1.fkids),I out1.ffault,sI out1.fpath])]) hF ?_
          obtain rfl := os h
          exact Into.mk
         refine Wp.mono hF ?_
         rintro _ _ ⟨rfl,hfin⟩
         obtain rfl := os h
         exact ⟨rfl,hfin⟩
        rcases fl with ⟨out_38,out_39⟩ | r
        ·refine Wp.into (x := .normal) (mkS [(7,.ra 2 0)] [(2,.box [.ra 2000 0]),(2000,.box [sI out_38,sI out_39,.sl (List.map PGTyped_S out1.fkids),I out1.ffault,sI out1.fpath])]) hF ?_
         obtain rfl := os h
         exact Into.mk
        refine Wp.mono hF ?_
        rintro _ _ ⟨rfl,hfin⟩
        obtain rfl := os h
        exact ⟨rfl,hfin⟩
       rcases fl with ⟨out_41,out_42⟩ | r
       ·refine Wp.into (x := .normal) (mkS [(7,.ra 2 0)] [(2,.box [.ra 2000 0]),(2000,.box [sI out_41,sI out_42,.sl (List.map PGTyped_S out1.fkids),I out1.ffault,sI out1.fpath])]) hF ?_
        obtain rfl := os h
        exact Into.mk
       refine Wp.mono hF ?_
       rintro _ _ ⟨rfl,hfin⟩
       obtain rfl := os h
       exact ⟨rfl,hfin⟩
      rcases fl with ⟨out_44,out_46⟩ | r
      ·refine Wp.into (x := .normal) (mkS [(7,.ra 2 0)] [(2,.box [.ra 2000 0]),(2000,.box [sI out_44,sI out_46,.sl (List.map PGTyped_S out1.fkids),I out1.ffault,sI out1.fpath])]) hF ?_
       obtain rfl := os h
       exact Into.mk
      refine Wp.mono hF ?_
      rintro _ _ ⟨rfl,hfin⟩
      obtain rfl := os h
      exact ⟨rfl,hfin⟩
     rcases fl with ⟨out_48,out_50⟩ | r
     ·refine Wp.into (x := .normal) (mkS [(7,.ra 2 0)] [(2,.box [.ra 2000 0]),(2000,.box [sI out_48,sI out_50,.sl (List.map PGTyped_S out1.fkids),I out1.ffault,sI out1.fpath])]) hF ?_
      obtain rfl := os h
      exact Into.mk
     refine Wp.mono hF ?_
     rintro _ _ ⟨rfl,hfin⟩
     obtain rfl := os h
     exact ⟨rfl,hfin⟩
    rcases fl with ⟨out_52,out_54⟩ | r
    ·refine Wp.into (x := .normal) (mkS [(7,.ra 2 0)] [(2,.box [.ra 2000 0]),(2000,.box [sI out_52,sI out_54,.sl (List.map PGTyped_S out1.fkids),I out1.ffault,sI out1.fpath])]) hF ?_
     obtain rfl := os h
     exact Into.mk
    refine Wp.mono hF ?_
    rintro _ _ ⟨rfl,hfin⟩
    obtain rfl := os h
    exact ⟨rfl,hfin⟩
   rcases fl with ⟨out_57,out_58⟩ | r
   ·refine Wp.into (x := .normal) (mkS [(7,.ra 2 0)] [(2,.box [.ra 2000 0]),(2000,.box [sI out_57,sI out_58,.sl (List.map PGTyped_S out1.fkids),I out1.ffault,sI out1.fpath])]) hF ?_
    obtain rfl := os h
    exact Into.mk
   refine Wp.mono hF ?_
   rintro _ _ ⟨rfl,hfin⟩
   obtain rfl := os h
   exact ⟨rfl,hfin⟩
  rcases fl with ⟨out_60,out_61⟩ | r
  ·refine Wp.into (x := .normal) (mkS [(7,.ra 2 0)] [(2,.box [.ra 2000 0]),(2000,.box [sI out_60,sI out_61,.sl (List.map PGTyped_S out1.fkids),I out1.ffault,sI out1.fpath])]) hF ?_
   obtain rfl := os h
   exact Into.mk
  refine Wp.mono hF ?_
  rintro _ _ ⟨rfl,hfin⟩
  obtain rfl := os h
  exact ⟨rfl,hfin⟩
 rcases fl with ⟨out_64,out_65⟩ | r
 ·refine Wp.into (x := .normal) (mkS [(7,.ra 2 0)] [(2,.box [.ra 2000 0]),(2000,.box [sI out_64,sI out_65,.sl (List.map PGTyped_S out1.fkids),I out1.ffault,sI out1.fpath])]) hF ?_
  refine sN ?_
  obtain ⟨r_44_4,hr_44_4,h⟩ := bsome h
  refine rs hc none [oN,oN,oN,oN,oc (.bool r_44_4)] [(361,.bool r_44_4)] [(2000,.box [sI out_64,sI out_65,.sl (List.map PGTyped_S out1.fkids),I out1.ffault,sI out1.fpath])] (ai (impl_long_s _ _ hr_44_4) (ai bod_226 (ai (oi (.bool r_44_4)) trivial))) ?_
  rcases is h with ⟨hb_67,h⟩ | ⟨hb_67,h⟩
  ·refine cT r_44_4 hb_67 ?_
   refine rs0 hc 1 [(12,I 3)] [(2000,.box [sI out_64,sI out_65,.sl (List.map PGTyped_S out1.fkids),I out1.ffault,sI out1.fpath])] ?_
   refine rt ?_
   obtain rfl := os h
   exact RetOQ.ret (fl := [true]) (by kernel_rfl)
  refine cF r_44_4 hb_67 ?_
  refine sk ?_
  refine rs0 hc 1 [(12,I 0)] [(2000,.box [sI out_64,sI out_65,.sl (List.map PGTyped_S out1.fkids),I out1.ffault,sI out1.fpath])] ?_
  refine rt ?_
  obtain rfl := os h
  exact RetOQ.ret (fl := [true]) (by kernel_rfl)
 refine Wp.mono hF ?_
 rintro _ _ ⟨rfl,hfin⟩
 obtain rfl := os h
 exact ⟨.inl rfl,hfin⟩
def impl_typertyp_F1 (c : Ctx) (p0 : GTyper) (ctx1 : List (List Int)) (t2 : GTerm) : ((List GTyped) × (List (List Int)) × (List (List Int))) ⊕ (GTyped) → Exit → AState → Prop
 | .inl (out_44,needs_45,used_46) => Into c (.exit 0) (mkS [(1,sL ctx1),(3,.ra 1 0),(5,.ra 2 0),(7,.ra 4 0),(8,.rs 21),(9,.rs 22)] [(1,bTyper p0),(2,bTerm t2),(3,.arr (List.map I (List.replicate (Int.toNat (ctx1.length : Int)) 0))),(4,.box [.nils,.rs 3,.rs 20,I 0,.nils]),(20,.arr (List.map PGTyped_S out_44)),(21,.arr (List.map LI_s needs_45)),(22,.arr (List.map LI_s used_46))])
 | .inr r => RetE TIx Tryz.f156 [] (.ptr [sI r.fty,sI r.fneeds,.sl (List.map PGTyped_S r.fkids),I r.ffault,sI r.fpath] 0)
end Go.Am
