/- Functions of the program as pure functions,and that it computes them. Printed by a program of mine (gen.py). -/
import Derived.Test.YtmcpomoofkjfcaaGreatGFIF8
set_option linter.unusedVariables false
set_option linter.unusedSimpArgs false
set_option maxRecDepth 100000
namespace Go.Am
open Go Go.Proofs
def impl_typerscaled_l0 (p : GTyper × Int × (List Int) × (List Int) × Int) : Option ((List Int)) :=
 match p with
 | (p0,g1,l2,out_2,w_3) =>
  if (decide (w_3 < (l2.length : Int))) = true then
   (idx l2 w_3) >>= fun e_4_1 =>
   (impl_Systemtimes (p0.fs,g1,e_4_1)) >>= fun r_5_6 =>
   (idx out_2 w_3) >>= fun e_5_7 =>
   impl_typerscaled_l0 (p0,g1,l2,(List.set out_2 (Int.toNat w_3) r_5_6),(wr (w_3 + 1)))
  else
   some (out_2)
 partial_fixpoint
def M_impl_typerscaled_l0 (p : GTyper × Int × (List Int) × (List Int) × Int) (fl : (List Int)) : Prop :=
 match p with
 | (p0,g1,l2,out_2,w_3) => ∀ c : Ctx,c.nt = 30 → WpL Tryz.prog c (cl (cl (cr (cl (cr (cr B225)))))) (impl_typerscaled_F1 c fl) (mkS [(1,I g1),(3,.ra 1 0),(7,.rs 2),(13,sI l2),(14,I (l2.length : Int)),(15,I w_3)] [(1,bTyper p0),(2,rI out_2)])
theorem impl_typerscaled_l0_s : ∀ p r,impl_typerscaled_l0 p = some r → M_impl_typerscaled_l0 p r := by
 refine impl_typerscaled_l0.partial_correctness M_impl_typerscaled_l0 ?_
 rintro impl_typerscaled_l0_f impl_typerscaled_l0_ih ⟨p0,g1,l2,out_2,w_3⟩ r h
 intro c hc
 refine WpL.step ?_
 refine rs0 hc 1 [(1,I g1),(3,.ra 1 0),(7,.rs 2),(13,sI l2),(14,I (l2.length : Int)),(15,I w_3),(16,.bool (decide (w_3 < (l2.length : Int))))] [(1,bTyper p0),(2,rI out_2)] ?_
 refine sN ?_
 rcases is h with ⟨hb_4,h⟩ | ⟨hb_4,h⟩
 ·refine cT ((decide (w_3 < (l2.length : Int)))) hb_4 ?_
  refine sk ?_
  refine sN ?_
  refine bk 1 ?_
  obtain ⟨e_4_1,hi_4_1,h⟩ := bsome h
  refine rs hc none [oN,some (.el (I e_4_1)),oN,oN,oN] [(1,I g1),(3,.ra 1 0),(7,.rs 2),(8,I w_3),(9,I e_4_1),(13,sI l2),(14,I (l2.length : Int)),(15,I w_3)] [(1,bTyper p0),(2,rI out_2)] (ai (ix hi_4_1) trivial) ?_
  obtain ⟨r_5_6,hr_5_6,h⟩ := bsome h
  obtain ⟨e_5_7,hi_5_7,h⟩ := bsome h
  refine rg hc none [oN,oN,oN,oN,oN,oN,oc (I r_5_6),oN,some (.eqv (.mk 0 true) ⟨[],[(2,some (.arr (List.map I (List.set out_2 (Int.toNat w_3) r_5_6))))],[]⟩)] [(1,I g1),(3,.ra 1 0),(7,.rs 2),(13,sI l2),(14,I (l2.length : Int)),(15,I w_3)] [(1,bTyper p0),(2,.arr (List.map I (List.set out_2 (Int.toNat w_3) r_5_6)))] (ai (impl_Systemtimes_s _ _ hr_5_6) (ai bod_170 (ai (oi (I r_5_6)) (ai (idx_own (enc := I) hi_5_7) (ai (congrArg (fun z => (⟨[],[(2,some (.arr z))],[]⟩ : Wr)) (set_row (enc := I) (i := Int.toNat w_3) (l := out_2) (v := r_5_6) (x := I r_5_6) (eq_I r_5_6))) (ai (own_set (enc := I) (sz := 1) sz_I hi_5_7) trivial)))))) ?_
  refine rg0 hc 2 [(1,I g1),(3,.ra 1 0),(7,.rs 2),(13,sI l2),(14,I (l2.length : Int)),(15,I (wr (w_3 + 1)))] [(1,bTyper p0),(2,.arr (List.map I (List.set out_2 (Int.toNat w_3) r_5_6)))] ?_
  refine loopQ_norm ?_
  exact (impl_typerscaled_l0_ih _ _ h c hc)
 refine cF ((decide (w_3 < (l2.length : Int)))) hb_4 ?_
 refine xt 0 ?_
 refine seqQ_exit ?_
 refine loopQ_exit ?_
 obtain rfl := os h
 exact iv []
def impl_typerscaled (p : GTyper × Int × (List Int)) : Option ((List Int)) :=
 match p with
 | (p0,g1,l2) =>
  (chk (0 ≤ (l2.length : Int) ∧ (Int.toNat (l2.length : Int)) * 8 ≤ 140737488355328)) >>= fun _ =>
  (impl_typerscaled_l0 (p0,g1,l2,(List.replicate (Int.toNat (l2.length : Int)) 0),0)) >>= fun out_5 =>
  some out_5
def M_impl_typerscaled (p : GTyper × Int × (List Int)) (r : (List Int)) : Prop :=
 match p with
 | (p0,g1,l2) => FnSound Tryz.prog 225 [aTyper p0,I g1,sI l2] (oI r) []
theorem impl_typerscaled_s : ∀ p r,impl_typerscaled p = some r → M_impl_typerscaled p r := by
 rintro ⟨p0,g1,l2⟩ r h
 unfold impl_typerscaled at h
 refine b0 Tryz.f225 B225 30 [(0,aTyper p0),(1,I g1),(2,sI l2)] fun c hc => ?_
 refine rs hc none [some (.new 1),oN] [(1,I g1),(2,sI l2),(3,.ra 1 0)] [(1,bTyper p0)] trivial ?_
 obtain ⟨_,hk_1_2,h⟩ := bsome h
 refine rs hc none [oN,some (.eqv (.no) ⟨[(11,I (l2.length : Int))],[],[]⟩),some (.eqv (.mk 2 true) ⟨[(12,.rs 2)],[(2,some (.arr (List.map I (List.replicate (Int.toNat (l2.length : Int)) 0))))],[2]⟩),oN] [(1,I g1),(2,sI l2),(3,.ra 1 0),(7,.rs 2)] [(1,bTyper p0),(2,.arr (List.map I (List.replicate (Int.toNat (l2.length : Int)) 0)))] (ai (lenT (d := 11) I l2) (ai (congrArg (fun z => (⟨[(12,.rs 2)],[(2,some (.arr z))],[2]⟩ : Wr)) (rep_row (enc := I) (n := Int.toNat (l2.length : Int)) (x := I 0) (eq_I 0))) (ai (And.intro (Eq.refl (l2.length : Int)) (chk_of hk_1_2)) trivial))) ?_
 refine sN ?_
 refine rs hc none [oN,some (.eqv (.no) ⟨[(14,I (l2.length : Int))],[],[]⟩),oN] [(1,I g1),(3,.ra 1 0),(7,.rs 2),(13,sI l2),(14,I (l2.length : Int)),(15,I 0)] [(1,bTyper p0),(2,.arr (List.map I (List.replicate (Int.toNat (l2.length : Int)) 0)))] (ai (lenT (d := 14) I l2) trivial) ?_
 refine bk 0 ?_
 obtain ⟨out_5,hl_6,h⟩ := bsome h
 have hL := impl_typerscaled_l0_s _ _ hl_6 c hc
 refine lp ?_
 refine WpL.into (e := (.exit 0)) (mkS [(7,.rs 2)] [(2,rI out_5)]) hL ?_
 refine blockQ_hit ?_
 refine rs0 hc 2 [(6,.rs 2)] [(2,rI out_5)] ?_
 refine rt ?_
 obtain rfl := os h
 exact rq [true]
def impl_long (ty0 : (List Int)) : Option (Bool) :=
  some (decide ((ty0.length : Int) > 40))
def M_impl_long (ty0 : (List Int)) (r : Bool) : Prop :=
 FnSound Tryz.prog 226 [sI ty0] (.bool r) []
theorem impl_long_s : ∀ p r,impl_long p = some r → M_impl_long p r := by
 rintro ty0 r h
 unfold impl_long at h
 refine b0 Tryz.f226 B226 6 [(0,sI ty0)] fun c hc => ?_
 refine rs0 hc 1 [(0,sI ty0)] [] ?_
 refine rs hc none [oN,some (.eqv (.no) ⟨[(4,I (ty0.length : Int))],[],[]⟩),oN,oN] [(2,.bool (decide ((ty0.length : Int) > 40)))] [] (ai (lenT (d := 4) I ty0) trivial) ?_
 refine rt ?_
 obtain rfl := os h
 exact rq [true]
def impl_typerfinish_F1 (c : Ctx) (p0 : GTyper) (out1 : GTyped) (ctx2 : List (List Int)) (t3 : GTerm) (needs4 : List (List Int)) (used5 : List (List Int)) : ((List Int) × (List Int)) ⊕ ((Int × GTyped)) → Exit → AState → Prop
 | .inl (out_22,out_23) => Into c .normal (mkS [(7,.ra 2 0)] [(2,.box [.ra 2000 0]),(36,rI out_23),(2000,.box [sI out_22,.rs 36,.sl (List.map PGTyped_S out1.fkids),I out1.ffault,sI out1.fpath])])
 | .inr r => RetOE TIx Tryz.f179 [aTyper p0,.optr [oI out1.fty,oI out1.fneeds,.osl (List.map PGTyped_S out1.fkids),I out1.ffault,oI out1.fpath],sL ctx2,aTerm t3,sL needs4,sL used5] (I r.1,[.undef,.optr [.sl (List.map I r.2.fty),.sl (List.map I r.2.fneeds),.sl (List.map PGTyped_S r.2.fkids),I r.2.ffault,.sl (List.map I r.2.fpath)],.undef,.undef,.undef,.undef])
def impl_typerfinish_F2 (c : Ctx) (p0 : GTyper) (out1 : GTyped) (ctx2 : List (List Int)) (t3 : GTerm) (needs4 : List (List Int)) (used5 : List (List Int)) : ((List Int) × (List Int)) ⊕ ((Int × GTyped)) → Exit → AState → Prop
 | .inl (out_25,out_26) => Into c .normal (mkS [(7,.ra 2 0)] [(2,.box [.ra 2000 0]),(34,rI out_26),(2000,.box [sI out_25,.rs 34,.sl (List.map PGTyped_S out1.fkids),I out1.ffault,sI out1.fpath])])
 | .inr r => RetOE TIx Tryz.f179 [aTyper p0,.optr [oI out1.fty,oI out1.fneeds,.osl (List.map PGTyped_S out1.fkids),I out1.ffault,oI out1.fpath],sL ctx2,aTerm t3,sL needs4,sL used5] (I r.1,[.undef,.optr [.sl (List.map I r.2.fty),.sl (List.map I r.2.fneeds),.sl (List.map PGTyped_S r.2.fkids),I r.2.ffault,.sl (List.map I r.2.fpath)],.undef,.undef,.undef,.undef])
def impl_typerfinish_F3 (c : Ctx) (p0 : GTyper) (out1 : GTyped) (ctx2 : List (List Int)) (t3 : GTerm) (needs4 : List (List Int)) (used5 : List (List Int)) : ((List Int) × (List Int)) ⊕ ((Int × GTyped)) → Exit → AState → Prop
 | .inl (out_28,out_29) => Into c .normal (mkS [(7,.ra 2 0)] [(2,.box [.ra 2000 0]),(30,rI out_29),(2000,.box [sI out_28,.rs 30,.sl (List.map PGTyped_S out1.fkids),I out1.ffault,sI out1.fpath])])
 | .inr r => RetOE TIx Tryz.f179 [aTyper p0,.optr [oI out1.fty,oI out1.fneeds,.osl (List.map PGTyped_S out1.fkids),I out1.ffault,oI out1.fpath],sL ctx2,aTerm t3,sL needs4,sL used5] (I r.1,[.undef,.optr [.sl (List.map I r.2.fty),.sl (List.map I r.2.fneeds),.sl (List.map PGTyped_S r.2.fkids),I r.2.ffault,.sl (List.map I r.2.fpath)],.undef,.undef,.undef,.undef])
def impl_typerfinish_F4 (c : Ctx) (p0 : GTyper) (out1 : GTyped) (ctx2 : List (List Int)) (t3 : GTerm) (needs4 : List (List Int)) (used5 : List (List Int)) : ((List Int) × (List Int)) ⊕ ((Int × GTyped)) → Exit → AState → Prop
 | .inl (out_31,out_32) => Into c .normal (mkS [(7,.ra 2 0)] [(2,.box [.ra 2000 0]),(2000,.box [sI out_31,sI out_32,.sl (List.map PGTyped_S out1.fkids),I out1.ffault,sI out1.fpath])])
 | .inr r => RetOE TIx Tryz.f179 [aTyper p0,.optr [oI out1.fty,oI out1.fneeds,.osl (List.map PGTyped_S out1.fkids),I out1.ffault,oI out1.fpath],sL ctx2,aTerm t3,sL needs4,sL used5] (I r.1,[.undef,.optr [.sl (List.map I r.2.fty),.sl (List.map I r.2.fneeds),.sl (List.map PGTyped_S r.2.fkids),I r.2.ffault,.sl (List.map I r.2.fpath)],.undef,.undef,.undef,.undef])
def impl_typerfinish_F5 (c : Ctx) (p0 : GTyper) (out1 : GTyped) (ctx2 : List (List Int)) (t3 : GTerm) (needs4 : List (List Int)) (used5 : List (List Int)) : ((List Int) × (List Int)) ⊕ ((Int × GTyped)) → Exit → AState → Prop
 | .inl (out_34,out_36) => Into c .normal (mkS [(7,.ra 2 0)] [(2,.box [.ra 2000 0]),(2000,.box [sI out_34,sI out_36,.sl (List.map PGTyped_S out1.fkids),I out1.ffault,sI out1.fpath])])
 | .inr r => RetOE TIx Tryz.f179 [aTyper p0,.optr [oI out1.fty,oI out1.fneeds,.osl (List.map PGTyped_S out1.fkids),I out1.ffault,oI out1.fpath],sL ctx2,aTerm t3,sL needs4,sL used5] (I r.1,[.undef,.optr [.sl (List.map I r.2.fty),.sl (List.map I r.2.fneeds),.sl (List.map PGTyped_S r.2.fkids),I r.2.ffault,.sl (List.map I r.2.fpath)],.undef,.undef,.undef,.undef])
def impl_typerfinish_F6 (c : Ctx) (p0 : GTyper) (out1 : GTyped) (ctx2 : List (List Int)) (t3 : GTerm) (needs4 : List (List Int)) (used5 : List (List Int)) : ((List Int) × (List Int)) ⊕ ((Int × GTyped)) → Exit → AState → Prop
 | .inl (out_38,out_39) => Into c .normal (mkS [(7,.ra 2 0)] [(2,.box [.ra 2000 0]),(2000,.box [sI out_38,sI out_39,.sl (List.map PGTyped_S out1.fkids),I out1.ffault,sI out1.fpath])])
 | .inr r => RetOE TIx Tryz.f179 [aTyper p0,.optr [oI out1.fty,oI out1.fneeds,.osl (List.map PGTyped_S out1.fkids),I out1.ffault,oI out1.fpath],sL ctx2,aTerm t3,sL needs4,sL used5] (I r.1,[.undef,.optr [.sl (List.map I r.2.fty),.sl (List.map I r.2.fneeds),.sl (List.map PGTyped_S r.2.fkids),I r.2.ffault,.sl (List.map I r.2.fpath)],.undef,.undef,.undef,.undef])
def impl_typerfinish_F7 (c : Ctx) (p0 : GTyper) (out1 : GTyped) (ctx2 : List (List Int)) (t3 : GTerm) (needs4 : List (List Int)) (used5 : List (List Int)) : ((List Int) × (List Int)) ⊕ ((Int × GTyped)) → Exit → AState → Prop
 | .inl (out_41,out_42) => Into c .normal (mkS [(7,.ra 2 0)] [(2,.box [.ra 2000 0]),(2000,.box [sI out_41,sI out_42,.sl (List.map PGTyped_S out1.fkids),I out1.ffault,sI out1.fpath])])
 | .inr r => RetOE TIx Tryz.f179 [aTyper p0,.optr [oI out1.fty,oI out1.fneeds,.osl (List.map PGTyped_S out1.fkids),I out1.ffault,oI out1.fpath],sL ctx2,aTerm t3,sL needs4,sL used5] (I r.1,[.undef,.optr [.sl (List.map I r.2.fty),.sl (List.map I r.2.fneeds),.sl (List.map PGTyped_S r.2.fkids),I r.2.ffault,.sl (List.map I r.2.fpath)],.undef,.undef,.undef,.undef])
def impl_typerfinish_F8 (c : Ctx) (p0 : GTyper) (out1 : GTyped) (ctx2 : List (List Int)) (t3 : GTerm) (needs4 : List (List Int)) (used5 : List (List Int)) : ((List Int) × (List Int)) ⊕ ((Int × GTyped)) → Exit → AState → Prop
 | .inl (out_44,out_46) => Into c .normal (mkS [(7,.ra 2 0)] [(2,.box [.ra 2000 0]),(2000,.box [sI out_44,sI out_46,.sl (List.map PGTyped_S out1.fkids),I out1.ffault,sI out1.fpath])])
 | .inr r => RetOE TIx Tryz.f179 [aTyper p0,.optr [oI out1.fty,oI out1.fneeds,.osl (List.map PGTyped_S out1.fkids),I out1.ffault,oI out1.fpath],sL ctx2,aTerm t3,sL needs4,sL used5] (I r.1,[.undef,.optr [.sl (List.map I r.2.fty),.sl (List.map I r.2.fneeds),.sl (List.map PGTyped_S r.2.fkids),I r.2.ffault,.sl (List.map I r.2.fpath)],.undef,.undef,.undef,.undef])
def impl_typerfinish_F9 (c : Ctx) (p0 : GTyper) (out1 : GTyped) (ctx2 : List (List Int)) (t3 : GTerm) (needs4 : List (List Int)) (used5 : List (List Int)) : ((List Int) × (List Int)) ⊕ ((Int × GTyped)) → Exit → AState → Prop
 | .inl (out_48,out_50) => Into c .normal (mkS [(7,.ra 2 0)] [(2,.box [.ra 2000 0]),(2000,.box [sI out_48,sI out_50,.sl (List.map PGTyped_S out1.fkids),I out1.ffault,sI out1.fpath])])
 | .inr r => RetOE TIx Tryz.f179 [aTyper p0,.optr [oI out1.fty,oI out1.fneeds,.osl (List.map PGTyped_S out1.fkids),I out1.ffault,oI out1.fpath],sL ctx2,aTerm t3,sL needs4,sL used5] (I r.1,[.undef,.optr [.sl (List.map I r.2.fty),.sl (List.map I r.2.fneeds),.sl (List.map PGTyped_S r.2.fkids),I r.2.ffault,.sl (List.map I r.2.fpath)],.undef,.undef,.undef,.undef])
def impl_typerfinish_F10 (c : Ctx) (p0 : GTyper) (out1 : GTyped) (ctx2 : List (List Int)) (t3 : GTerm) (needs4 : List (List Int)) (used5 : List (List Int)) : ((List Int) × (List Int)) ⊕ ((Int × GTyped)) → Exit → AState → Prop
 | .inl (out_52,out_54) => Into c .normal (mkS [(7,.ra 2 0)] [(2,.box [.ra 2000 0]),(2000,.box [sI out_52,sI out_54,.sl (List.map PGTyped_S out1.fkids),I out1.ffault,sI out1.fpath])])
 | .inr r => RetOE TIx Tryz.f179 [aTyper p0,.optr [oI out1.fty,oI out1.fneeds,.osl (List.map PGTyped_S out1.fkids),I out1.ffault,oI out1.fpath],sL ctx2,aTerm t3,sL needs4,sL used5] (I r.1,[.undef,.optr [.sl (List.map I r.2.fty),.sl (List.map I r.2.fneeds),.sl (List.map PGTyped_S r.2.fkids),I r.2.ffault,.sl (List.map I r.2.fpath)],.undef,.undef,.undef,.undef])
def impl_typerfinish_F11 (c : Ctx) (p0 : GTyper) (out1 : GTyped) (ctx2 : List (List Int)) (t3 : GTerm) (needs4 : List (List Int)) (used5 : List (List Int)) : ((List Int) × (List Int)) ⊕ ((Int × GTyped)) → Exit → AState → Prop
 | .inl (out_57,out_58) => Into c .normal (mkS [(7,.ra 2 0)] [(2,.box [.ra 2000 0]),(2000,.box [sI out_57,sI out_58,.sl (List.map PGTyped_S out1.fkids),I out1.ffault,sI out1.fpath])])
 | .inr r => RetOE TIx Tryz.f179 [aTyper p0,.optr [oI out1.fty,oI out1.fneeds,.osl (List.map PGTyped_S out1.fkids),I out1.ffault,oI out1.fpath],sL ctx2,aTerm t3,sL needs4,sL used5] (I r.1,[.undef,.optr [.sl (List.map I r.2.fty),.sl (List.map I r.2.fneeds),.sl (List.map PGTyped_S r.2.fkids),I r.2.ffault,.sl (List.map I r.2.fpath)],.undef,.undef,.undef,.undef])
def impl_typerfinish_F12 (c : Ctx) (p0 : GTyper) (out1 : GTyped) (ctx2 : List (List Int)) (t3 : GTerm) (needs4 : List (List Int)) (used5 : List (List Int)) : ((List Int) × (List Int)) ⊕ ((Int × GTyped)) → Exit → AState → Prop
 | .inl (out_60,out_61) => Into c .normal (mkS [(7,.ra 2 0)] [(2,.box [.ra 2000 0]),(2000,.box [sI out_60,sI out_61,.sl (List.map PGTyped_S out1.fkids),I out1.ffault,sI out1.fpath])])
 | .inr r => RetOE TIx Tryz.f179 [aTyper p0,.optr [oI out1.fty,oI out1.fneeds,.osl (List.map PGTyped_S out1.fkids),I out1.ffault,oI out1.fpath],sL ctx2,aTerm t3,sL needs4,sL used5] (I r.1,[.undef,.optr [.sl (List.map I r.2.fty),.sl (List.map I r.2.fneeds),.sl (List.map PGTyped_S r.2.fkids),I r.2.ffault,.sl (List.map I r.2.fpath)],.undef,.undef,.undef,.undef])
def impl_typerfinish_F13 (c : Ctx) (p0 : GTyper) (out1 : GTyped) (ctx2 : List (List Int)) (t3 : GTerm) (needs4 : List (List Int)) (used5 : List (List Int)) : ((List Int) × (List Int)) ⊕ ((Int × GTyped)) → Exit → AState → Prop
 | .inl (out_64,out_65) => Into c .normal (mkS [(7,.ra 2 0)] [(2,.box [.ra 2000 0]),(2000,.box [sI out_64,sI out_65,.sl (List.map PGTyped_S out1.fkids),I out1.ffault,sI out1.fpath])])
 | .inr r => RetOE TIx Tryz.f179 [aTyper p0,.optr [oI out1.fty,oI out1.fneeds,.osl (List.map PGTyped_S out1.fkids),I out1.ffault,oI out1.fpath],sL ctx2,aTerm t3,sL needs4,sL used5] (I r.1,[.undef,.optr [.sl (List.map I r.2.fty),.sl (List.map I r.2.fneeds),.sl (List.map PGTyped_S r.2.fkids),I r.2.ffault,.sl (List.map I r.2.fpath)],.undef,.undef,.undef,.undef])
end Go.Am
