/- Functions of the program as pure functions, and that it computes them. Printed by a program of mine (gen.py). -/
import Derived.Test.YtmdfopkcoinfeaaGEVF8
set_option linter.unusedVariables false
set_option linter.unusedSimpArgs false
set_option maxRecDepth 100000
namespace Go.Am
open Go Go.Proofs
def impl_isView_F2 (c : Ctx) : (Unit) ⊕ (Bool) → Exit → AState → Prop
 | .inl _ => Into c (.exit 0) (mkS [] [])
 | .inr r => RetE TIx Try.f85 [] (.bool r)
def impl_isView_l1 (p : GSystem × (List Bool) × Int) : Option ((Unit) ⊕ (Bool)) :=
 match p with
 | (s0, in1, a_15) =>
  if (decide (a_15 < s0.fSize)) = true then
   (impl_isView_l0 (s0, in1, a_15, 0)) >>= fun fl => match fl with
   | .inl () =>
    impl_isView_l1 (s0, in1, (wr (a_15 + 1)))
   | .inr r =>
    some (.inr r)
  else
   some (.inl ())
 partial_fixpoint
def M_impl_isView_l1 (p : GSystem × (List Bool) × Int) (fl : (Unit) ⊕ (Bool)) : Prop :=
 match p with
 | (s0, in1, a_15) => ∀ c : Ctx, c.nt = 85 → WpL Try.prog c (cl (cl (cr (cl (cr (cr B85)))))) (impl_isView_F2 c fl) (mkS [(1, sB in1), (2, .ra 1 0), (5, I a_15)] [(1, bSystem s0)])
theorem impl_isView_l1_s : ∀ p r, impl_isView_l1 p = some r → M_impl_isView_l1 p r := by
 refine impl_isView_l1.partial_correctness M_impl_isView_l1 ?_
 rintro impl_isView_l1_f impl_isView_l1_ih ⟨s0, in1, a_15⟩ r h
 intro c hc
 show WpL Try.prog c (cl (cl (cr (cl (cr (cr B85)))))) (impl_isView_F2 c r) (mkS [(1, sB in1), (2, .ra 1 0), (5, I a_15)] [(1, bSystem s0)])
 refine WpL.step ?_
 refine sN ?_
 refine sN ?_
 refine rg0 hc 4 [(1, sB in1), (2, .ra 1 0), (5, I a_15), (19, .bool (decide (a_15 < s0.fSize)))] [(1, bSystem s0)] ?_
 refine seqQ_norm ?_
 rcases itesome h with ⟨hb_16, h⟩ | ⟨hb_16, h⟩
 ·refine cT ((decide (a_15 < s0.fSize))) hb_16 ?_
  refine Wp.skipN (by kernel_rfl) ?_
  refine seqQ_norm ?_
  refine sN ?_
  refine Wp.blockN (i := 1) (by kernel_rfl) ?_
  refine sN ?_
  refine rg0 hc 1 [(1, sB in1), (2, .ra 1 0), (5, I a_15), (6, I 0)] [(1, bSystem s0)] ?_
  refine seqQ_norm ?_
  refine Wp.blockN (i := 2) (by kernel_rfl) ?_
  obtain ⟨fl, hl_26, h⟩ := bsome h
  have hL := impl_isView_l0_s _ _ hl_26 c hc
  refine Wp.loopN (by kernel_rfl) ?_
  rcases fl with ⟨⟩ | r
  ·refine WpL.into (e := (.exit 2)) (mkS [(1, sB in1), (2, .ra 1 0), (5, I a_15)] [(1, bSystem s0)]) hL ?_
   refine blockQ_hit ?_
   refine blockQ_norm ?_
   refine seqQ_norm ?_
   refine rg0 hc 3 [(1, sB in1), (2, .ra 1 0), (5, I (wr (a_15 + 1)))] [(1, bSystem s0)] ?_
   refine loopQ_norm ?_
   exact (impl_isView_l1_ih _ _ h c hc)
  ·refine WpL.mono hL ?_
   rintro _ _ ⟨rfl, hfin⟩
   refine blockQ_ret ?_
   refine blockQ_ret ?_
   refine seqQ_ret ?_
   refine loopQ_ret ?_
   obtain rfl := Option.some.inj h
   exact ⟨rfl, hfin⟩
 ·refine cF ((decide (a_15 < s0.fSize))) hb_16 ?_
  refine Wp.exitN (i := 0) (by kernel_rfl) ?_
  refine seqQ_exit ?_
  refine loopQ_exit ?_
  obtain rfl := Option.some.inj h
  exact Into.view (fun a w hv => SRx.renL [] hv (by kernel_rfl) (by kernel_rfl) (by kernel_rfl))
def impl_isView (p : GSystem × (List Bool)) : Option (Bool) :=
 match p with
 | (s0, in1) =>
  (
   (idx in1 1) >>= fun e_1_1 =>
   if e_1_1 = true then
    (idx in1 0) >>= fun e_1_6 =>
    some (e_1_6)
   else
    some (true)
  ) >>= fun v_1 =>
  if v_1 = true then
   some false
  else
   (impl_isView_l1 (s0, in1, 0)) >>= fun fl => match fl with
   | .inl () =>
    some true
   | .inr r =>
    some r
def M_impl_isView (p : GSystem × (List Bool)) (r : Bool) : Prop :=
 match p with
 | (s0, in1) => FnSound Try.prog 85 [aSystem s0, sB in1] (.bool r) []
theorem impl_isView_s : ∀ p r, impl_isView p = some r → M_impl_isView p r := by
 rintro ⟨s0, in1⟩ r h
 unfold impl_isView at h
 show FnSound Try.prog 85 [aSystem s0, sB in1] (.bool r) []
 refine FnSound.body0 tiok (fn := Try.f85) (code := B85) (by kernel_rfl) (by kernel_rfl) (by kernel_rfl) (by kernel_rfl) (nt := 85) (by kernel_rfl) (by kernel_rfl) (T := [(0, aSystem s0), (1, sB in1)]) (O := []) (by kernel_rfl) (by kernel_rfl) (fun c hc => ?_)
 refine sN ?_
 refine rg hc none [some (.new 1), oN] [(1, sB in1), (2, .ra 1 0)] [(1, bSystem s0)] trivial ?_
 refine seqQ_norm ?_
 refine sN ?_
 refine sN ?_
 obtain ⟨v_1, hj_2, h⟩ := bsome h
 refine Wp.into (x := .normal) (mkS [(1, sB in1), (2, .ra 1 0), (15, .bool v_1)] [(1, bSystem s0)]) ?_ ?_
 ·replace h := hj_2
  obtain ⟨e_1_1, hi_1_1, h⟩ := bsome h
  rcases itesome h with ⟨hb_1_0, h⟩ | ⟨hb_1_0, h⟩
  ·obtain ⟨e_1_6, hi_1_6, h⟩ := bsome h
   refine rg hc none [oN, some (.el (.bool e_1_1)), oN, oN, oN, oN, some (.el (.bool e_1_6)), oN, oF] [(1, sB in1), (2, .ra 1 0), (15, .bool e_1_6)] [(1, bSystem s0)] (ai (idx_sl (enc := AV.bool) (x := .bool e_1_1) hi_1_1 (eq_B e_1_1)) (ar 2 (nF hb_1_0) (ai (idx_sl (enc := AV.bool) (x := .bool e_1_6) hi_1_6 (eq_B e_1_6)) (ar 2 (nF hb_1_0) trivial)))) ?_
   obtain rfl := Option.some.inj h
   exact Into.mk
  ·refine rg hc none [oN, some (.el (.bool e_1_1)), oN, oN, oN, o_, o_, o_, oT] [(1, sB in1), (2, .ra 1 0), (15, .bool true)] [(1, bSystem s0)] (ai (idx_sl (enc := AV.bool) (x := .bool e_1_1) hi_1_1 (eq_B e_1_1)) (ar 3 (neF (nT hb_1_0)) (ai (nT hb_1_0) trivial))) ?_
   obtain rfl := Option.some.inj h
   exact Into.mk
 ·clear hj_2
  refine seqQ_norm ?_
  rcases itesome h with ⟨hb_3, h⟩ | ⟨hb_3, h⟩
  ·refine cT v_1 hb_3 ?_
   refine sN ?_
   refine rg0 hc 1 [(4, .bool false)] [] ?_
   refine seqQ_norm ?_
   refine Wp.retN (by kernel_rfl) ?_
   refine seqQ_ret ?_
   obtain rfl := Option.some.inj h
   exact RetQ.ret (fl := [true]) (by kernel_rfl)
  ·refine cF v_1 hb_3 ?_
   refine Wp.skipN (by kernel_rfl) ?_
   refine seqQ_norm ?_
   refine sN ?_
   refine sN ?_
   refine rg0 hc 1 [(1, sB in1), (2, .ra 1 0), (5, I 0)] [(1, bSystem s0)] ?_
   refine seqQ_norm ?_
   refine Wp.blockN (i := 0) (by kernel_rfl) ?_
   obtain ⟨fl, hl_27, h⟩ := bsome h
   have hL := impl_isView_l1_s _ _ hl_27 c hc
   refine Wp.loopN (by kernel_rfl) ?_
   rcases fl with ⟨⟩ | r
   ·refine WpL.into (e := (.exit 0)) (mkS [] []) hL ?_
    refine blockQ_hit ?_
    refine seqQ_norm ?_
    refine sN ?_
    refine rg0 hc 1 [(4, .bool true)] [] ?_
    refine seqQ_norm ?_
    refine Wp.retN (by kernel_rfl) ?_
    obtain rfl := Option.some.inj h
    exact RetQ.ret (fl := [true]) (by kernel_rfl)
   ·refine WpL.mono hL ?_
    rintro _ _ ⟨rfl, hfin⟩
    refine blockQ_ret ?_
    refine seqQ_ret ?_
    obtain rfl := Option.some.inj h
    exact ⟨.inl rfl, hfin⟩
def impl_IsView_F1 (c : Ctx) (s0 : GSystem) : ((List Bool)) ⊕ (Bool) → Exit → AState → Prop
 | .inl in_12 => Into c (.exit 0) (mkS [(2, .ra 1 0), (5, .rs 2)] [(1, bSystem s0), (2, .arr (List.map AV.bool in_12))])
 | .inr r => RetE TIx Try.f46 [] (.bool r)
def impl_IsView_l0 (p : GSystem × (List Int) × (List Bool) × Int) : Option (((List Bool)) ⊕ (Bool)) :=
 match p with
 | (s0, v1, in_6, w_7) =>
  if (decide (w_7 < (v1.length : Int))) = true then
   (idx v1 w_7) >>= fun e_6_1 =>
   (
    (impl_Systemhas (s0, e_6_1)) >>= fun r_7_2 =>
    if r_7_2 = true then
     if (decide (w_7 > 0)) = true then
      (idx v1 (wr (w_7 - 1))) >>= fun e_7_12 =>
      some ((decide (e_6_1 ≤ e_7_12)))
     else
      some (false)
    else
     some (true)
   ) >>= fun v_9 =>
   if v_9 = true then
    some (.inr false)
   else
    (idx in_6 e_6_1) >>= fun e_9_2 =>
    impl_IsView_l0 (s0, v1, (List.set in_6 (Int.toNat e_6_1) true), (wr (w_7 + 1)))
  else
   some (.inl in_6)
 partial_fixpoint
def M_impl_IsView_l0 (p : GSystem × (List Int) × (List Bool) × Int) (fl : ((List Bool)) ⊕ (Bool)) : Prop :=
 match p with
 | (s0, v1, in_6, w_7) => ∀ c : Ctx, c.nt = 45 → WpL Try.prog c (cl (cl (cr (cl (cr (cr (cr B46))))))) (impl_IsView_F1 c s0 fl) (mkS [(1, sI v1), (2, .ra 1 0), (5, .rs 2), (14, sI v1), (15, I (v1.length : Int)), (16, I w_7)] [(1, bSystem s0), (2, .arr (List.map AV.bool in_6))])
theorem impl_IsView_l0_s : ∀ p r, impl_IsView_l0 p = some r → M_impl_IsView_l0 p r := by
 refine impl_IsView_l0.partial_correctness M_impl_IsView_l0 ?_
 rintro impl_IsView_l0_f impl_IsView_l0_ih ⟨s0, v1, in_6, w_7⟩ r h
 intro c hc
 show WpL Try.prog c (cl (cl (cr (cl (cr (cr (cr B46))))))) (impl_IsView_F1 c s0 r) (mkS [(1, sI v1), (2, .ra 1 0), (5, .rs 2), (14, sI v1), (15, I (v1.length : Int)), (16, I w_7)] [(1, bSystem s0), (2, .arr (List.map AV.bool in_6))])
 refine WpL.step ?_
 refine sN ?_
 refine rg0 hc 1 [(1, sI v1), (2, .ra 1 0), (5, .rs 2), (14, sI v1), (15, I (v1.length : Int)), (16, I w_7), (17, .bool (decide (w_7 < (v1.length : Int))))] [(1, bSystem s0), (2, .arr (List.map AV.bool in_6))] ?_
 refine seqQ_norm ?_
 refine sN ?_
 rcases itesome h with ⟨hb_8, h⟩ | ⟨hb_8, h⟩
 ·refine cT ((decide (w_7 < (v1.length : Int)))) hb_8 ?_
  refine Wp.skipN (by kernel_rfl) ?_
  refine seqQ_norm ?_
  refine sN ?_
  refine Wp.blockN (i := 1) (by kernel_rfl) ?_
  refine sN ?_
  obtain ⟨e_6_1, hi_6_1, h⟩ := bsome h
  refine rg hc none [oN, some (.el (I e_6_1)), oN, oN, oN] [(1, sI v1), (2, .ra 1 0), (5, .rs 2), (6, I w_7), (7, I e_6_1), (14, sI v1), (15, I (v1.length : Int)), (16, I w_7)] [(1, bSystem s0), (2, .arr (List.map AV.bool in_6))] (ai (ix hi_6_1) trivial) ?_
  refine seqQ_norm ?_
  refine sN ?_
  refine sN ?_
  obtain ⟨v_9, hj_10, h⟩ := bsome h
  refine Wp.into (x := .normal) (mkS [(1, sI v1), (2, .ra 1 0), (5, .rs 2), (7, I e_6_1), (14, sI v1), (15, I (v1.length : Int)), (16, I w_7), (37, .bool v_9)] [(1, bSystem s0), (2, .arr (List.map AV.bool in_6))]) ?_ ?_
  ·replace h := hj_10
   obtain ⟨r_7_2, hr_7_2, h⟩ := bsome h
   rcases itesome h with ⟨hb_7_0, h⟩ | ⟨hb_7_0, h⟩
   ·rcases itesome h with ⟨hb_7_1, h⟩ | ⟨hb_7_1, h⟩
    ·obtain ⟨e_7_12, hi_7_12, h⟩ := bsome h
     refine rg hc none [oN, oN, oc (.bool r_7_2), oN, oN, oN, oN, oN, oN, oN, oN, oN, some (.el (I e_7_12)), oN, oN, oT, oF] [(1, sI v1), (2, .ra 1 0), (5, .rs 2), (7, I e_6_1), (14, sI v1), (15, I (v1.length : Int)), (16, I w_7), (37, .bool (decide (e_6_1 ≤ e_7_12)))] [(1, bSystem s0), (2, .arr (List.map AV.bool in_6))] (ai (impl_Systemhas_s _ _ hr_7_2) (ai bod_84 (ai (oi (.bool r_7_2)) (ar 3 (nF hb_7_0) (ar 5 hb_7_1 (ai (ix hi_7_12) (ar 2 hb_7_1 (ai (nF hb_7_0) (ai hb_7_1 (ai (nF hb_7_0) trivial)))))))))) ?_
     obtain rfl := Option.some.inj h
     exact Into.mk
    ·refine rg hc none [oN, oN, oc (.bool r_7_2), oN, oN, oN, oN, oN, o_, o_, o_, o_, o_, o_, o_, oF, oF] [(1, sI v1), (2, .ra 1 0), (5, .rs 2), (7, I e_6_1), (14, sI v1), (15, I (v1.length : Int)), (16, I w_7), (37, .bool false)] [(1, bSystem s0), (2, .arr (List.map AV.bool in_6))] (ai (impl_Systemhas_s _ _ hr_7_2) (ai bod_84 (ai (oi (.bool r_7_2)) (ar 3 (nF hb_7_0) (ar 7 (neT hb_7_1) (ai (nF hb_7_0) (ai hb_7_1 (ai (nF hb_7_0) trivial)))))))) ?_
     obtain rfl := Option.some.inj h
     exact Into.mk
   ·refine rg hc none [oN, oN, oc (.bool r_7_2), oN, oN, o_, o_, o_, o_, o_, o_, o_, o_, o_, o_, o_, oT] [(1, sI v1), (2, .ra 1 0), (5, .rs 2), (7, I e_6_1), (14, sI v1), (15, I (v1.length : Int)), (16, I w_7), (37, .bool true)] [(1, bSystem s0), (2, .arr (List.map AV.bool in_6))] (ai (impl_Systemhas_s _ _ hr_7_2) (ai bod_84 (ai (oi (.bool r_7_2)) (ar 4 (neF (nT hb_7_0)) (ai (nT hb_7_0) trivial))))) ?_
    obtain rfl := Option.some.inj h
    exact Into.mk
  ·clear hj_10
   refine seqQ_norm ?_
   rcases itesome h with ⟨hb_11, h⟩ | ⟨hb_11, h⟩
   ·refine cT v_9 hb_11 ?_
    refine sN ?_
    refine rg0 hc 1 [(4, .bool false)] [] ?_
    refine seqQ_norm ?_
    refine Wp.retN (by kernel_rfl) ?_
    refine seqQ_ret ?_
    refine blockQ_ret ?_
    refine seqQ_ret ?_
    refine loopQ_ret ?_
    obtain rfl := Option.some.inj h
    exact RetE.ret (fl := [true]) (by kernel_rfl)
   ·refine cF v_9 hb_11 ?_
    refine Wp.skipN (by kernel_rfl) ?_
    refine seqQ_norm ?_
    obtain ⟨e_9_2, hi_9_2, h⟩ := bsome h
    refine rg hc none [oN, oN, oN, some (.eqv (.mk 0 true) ⟨[], [(2, some (.arr (List.map AV.bool (List.set in_6 (Int.toNat e_6_1) true))))], []⟩)] [(1, sI v1), (2, .ra 1 0), (5, .rs 2), (14, sI v1), (15, I (v1.length : Int)), (16, I w_7)] [(1, bSystem s0), (2, .arr (List.map AV.bool (List.set in_6 (Int.toNat e_6_1) true)))] (ai (idx_own (enc := AV.bool) hi_9_2) (ai (congrArg (fun z => (⟨[], [(2, some (.arr z))], []⟩ : Wr)) (set_row (enc := AV.bool) (i := Int.toNat e_6_1) (l := in_6) (v := true) (x := AV.bool true) (eq_B true))) (ai (own_set (enc := AV.bool) (sz := 1) sz_B hi_9_2) trivial))) ?_
    refine blockQ_norm ?_
    refine seqQ_norm ?_
    refine rg0 hc 2 [(1, sI v1), (2, .ra 1 0), (5, .rs 2), (14, sI v1), (15, I (v1.length : Int)), (16, I (wr (w_7 + 1)))] [(1, bSystem s0), (2, .arr (List.map AV.bool (List.set in_6 (Int.toNat e_6_1) true)))] ?_
    refine loopQ_norm ?_
    exact (impl_IsView_l0_ih _ _ h c hc)
 ·refine cF ((decide (w_7 < (v1.length : Int)))) hb_8 ?_
  refine Wp.exitN (i := 0) (by kernel_rfl) ?_
  refine seqQ_exit ?_
  refine loopQ_exit ?_
  obtain rfl := Option.some.inj h
  exact Into.view (fun a w hv => SRx.renL [] hv (by kernel_rfl) (by kernel_rfl) (by kernel_rfl))
def impl_IsView (p : GSystem × (List Int)) : Option (Bool) :=
 match p with
 | (s0, v1) =>
  (impl_IsSystem s0) >>= fun r_1_1 =>
  if r_1_1 = true then
   (chk (0 ≤ s0.fSize ∧ (Int.toNat s0.fSize) * 1 ≤ 140737488355328)) >>= fun _ =>
   (impl_IsView_l0 (s0, v1, (List.replicate (Int.toNat s0.fSize) false), 0)) >>= fun fl => match fl with
   | .inl in_12 =>
    (impl_isView (s0, in_12)) >>= fun r_11_2 =>
    some r_11_2
   | .inr r =>
    some r
  else
   some false
def M_impl_IsView (p : GSystem × (List Int)) (r : Bool) : Prop :=
 match p with
 | (s0, v1) => FnSound Try.prog 46 [aSystem s0, sI v1] (.bool r) []
theorem impl_IsView_s : ∀ p r, impl_IsView p = some r → M_impl_IsView p r := by
 rintro ⟨s0, v1⟩ r h
 unfold impl_IsView at h
 show FnSound Try.prog 46 [aSystem s0, sI v1] (.bool r) []
 refine FnSound.body0 tiok (fn := Try.f46) (code := B46) (by kernel_rfl) (by kernel_rfl) (by kernel_rfl) (by kernel_rfl) (nt := 45) (by kernel_rfl) (by kernel_rfl) (T := [(0, aSystem s0), (1, sI v1)]) (O := []) (by kernel_rfl) (by kernel_rfl) (fun c hc => ?_)
 refine sN ?_
 refine rg hc none [some (.new 1), oN] [(1, sI v1), (2, .ra 1 0)] [(1, bSystem s0)] trivial ?_
 refine seqQ_norm ?_
 refine sN ?_
 refine sN ?_
 obtain ⟨r_1_1, hr_1_1, h⟩ := bsome h
 refine rg hc none [oN, oc (.bool r_1_1), oN] [(1, sI v1), (2, .ra 1 0), (10, .bool (!r_1_1))] [(1, bSystem s0)] (ai (impl_IsSystem_s _ _ hr_1_1) (ai bod_83 (ai (oi (.bool r_1_1)) trivial))) ?_
 refine seqQ_norm ?_
 rcases itesome h with ⟨hb_1, h⟩ | ⟨hb_1, h⟩
 ·refine cF (!r_1_1) (nF hb_1) ?_
  refine Wp.skipN (by kernel_rfl) ?_
  refine seqQ_norm ?_
  refine sN ?_
  obtain ⟨_, hk_3_2, h⟩ := bsome h
  refine rg hc none [oN, oN, some (.eqv (.mk 2 true) ⟨[(13, .rs 2)], [(2, some (.arr (List.map AV.bool (List.replicate (Int.toNat s0.fSize) false))))], [2]⟩), oN] [(1, sI v1), (2, .ra 1 0), (5, .rs 2)] [(1, bSystem s0), (2, .arr (List.map AV.bool (List.replicate (Int.toNat s0.fSize) false)))] (ai (congrArg (fun z => (⟨[(13, .rs 2)], [(2, some (.arr z))], [2]⟩ : Wr)) (rep_row (enc := AV.bool) (n := Int.toNat s0.fSize) (x := AV.bool false) (eq_B false))) (ai (And.intro (Eq.refl s0.fSize) (chk_of hk_3_2)) trivial)) ?_
  refine seqQ_norm ?_
  refine sN ?_
  refine sN ?_
  refine rg hc none [oN, some (.eqv (.no) ⟨[(15, I (v1.length : Int))], [], []⟩), oN] [(1, sI v1), (2, .ra 1 0), (5, .rs 2), (14, sI v1), (15, I (v1.length : Int)), (16, I 0)] [(1, bSystem s0), (2, .arr (List.map AV.bool (List.replicate (Int.toNat s0.fSize) false)))] (ai (lenT (d := 15) I v1) trivial) ?_
  refine seqQ_norm ?_
  refine Wp.blockN (i := 0) (by kernel_rfl) ?_
  obtain ⟨fl, hl_13, h⟩ := bsome h
  have hL := impl_IsView_l0_s _ _ hl_13 c hc
  refine Wp.loopN (by kernel_rfl) ?_
  rcases fl with in_12 | r
  ·refine WpL.into (e := (.exit 0)) (mkS [(2, .ra 1 0), (5, .rs 2)] [(1, bSystem s0), (2, .arr (List.map AV.bool in_12))]) hL ?_
   refine blockQ_hit ?_
   refine seqQ_norm ?_
   refine sN ?_
   obtain ⟨r_11_2, hr_11_2, h⟩ := bsome h
   refine rg hc none [oN, oN, oc (.bool r_11_2), oN] [(4, .bool r_11_2)] [] (ai (FnSound.args (A1 := [aSystem s0, .sl (shares (List.map AV.bool in_12))]) (A2 := [aSystem s0, sB in_12]) (by simp only [sI, sB, aSystem, aTerm, hSystem, hTerm, List.map_nil, sh_B]) (impl_isView_s _ _ hr_11_2)) (ai bod_85 (ai (Or.inr rfl : ([2] : List Nat) = [] ∨ noSh (.bool r_11_2) = true) trivial))) ?_
   refine seqQ_norm ?_
   refine Wp.retN (by kernel_rfl) ?_
   obtain rfl := Option.some.inj h
   exact RetQ.ret (fl := [true]) (by kernel_rfl)
  ·refine WpL.mono hL ?_
   rintro _ _ ⟨rfl, hfin⟩
   refine blockQ_ret ?_
   refine seqQ_ret ?_
   obtain rfl := Option.some.inj h
   exact ⟨.inl rfl, hfin⟩
 ·refine cT (!r_1_1) (nT hb_1) ?_
  refine sN ?_
  refine rg0 hc 1 [(4, .bool false)] [] ?_
  refine seqQ_norm ?_
  refine Wp.retN (by kernel_rfl) ?_
  refine seqQ_ret ?_
  obtain rfl := Option.some.inj h
  exact RetQ.ret (fl := [true]) (by kernel_rfl)
def impl_shape (code0 : Int) : Option (Int × Int) :=
  (impl_within (code0, 0, 2)) >>= fun r_1_1 =>
  if r_1_1 = true then
   some (code0, (-1))
  else
   (impl_within (code0, 3, 18)) >>= fun r_3_1 =>
   if r_3_1 = true then
    some (3, (wr (code0 - 3)))
   else
    (impl_within (code0, 19, 34)) >>= fun r_5_1 =>
    if r_5_1 = true then
     some (4, (wr (code0 - 19)))
    else
     if (code0 == 35) = true then
      some (3, (-1))
     else
      if (code0 == 36) = true then
       some (4, (-1))
      else
       some (5, (-1))
def M_impl_shape (code0 : Int) (r : Int × Int) : Prop :=
 FnSound Try.prog 77 [I code0] (.tup [I r.1, I r.2]) []
theorem impl_shape_s : ∀ p r, impl_shape p = some r → M_impl_shape p r := by
 rintro code0 r h
 unfold impl_shape at h
 show FnSound Try.prog 77 [I code0] (.tup [I r.1, I r.2]) []
 refine FnSound.body0 tiok (fn := Try.f77) (code := B77) (by kernel_rfl) (by kernel_rfl) (by kernel_rfl) (by kernel_rfl) (nt := 24) (by kernel_rfl) (by kernel_rfl) (T := [(0, I code0)]) (O := []) (by kernel_rfl) (by kernel_rfl) (fun c hc => ?_)
 refine sN ?_
 refine rg0 hc 2 [(0, I code0)] [] ?_
 refine seqQ_norm ?_
 refine sN ?_
 refine Wp.blockN (i := 0) (by kernel_rfl) ?_
 refine sN ?_
 obtain ⟨r_1_1, hr_1_1, h⟩ := bsome h
 refine rg hc none [oN, oc (.bool r_1_1), oN] [(0, I code0), (4, .bool r_1_1)] [] (ai (impl_within_s _ _ hr_1_1) (ai bod_61 (ai (oi (.bool r_1_1)) trivial))) ?_
 refine seqQ_norm ?_
 rcases itesome h with ⟨hb_1, h⟩ | ⟨hb_1, h⟩
 ·refine cT r_1_1 hb_1 ?_
  refine sN ?_
  refine rg0 hc 3 [(2, I code0), (3, I (-1))] [] ?_
  refine seqQ_norm ?_
  refine Wp.retN (by kernel_rfl) ?_
  refine blockQ_ret ?_
  refine seqQ_ret ?_
  obtain rfl := Option.some.inj h
  exact RetQ.ret (fl := [true, true]) (by kernel_rfl)
 ·refine cF r_1_1 hb_1 ?_
  refine sN ?_
  obtain ⟨r_3_1, hr_3_1, h⟩ := bsome h
  refine rg hc none [oN, oc (.bool r_3_1), oN] [(0, I code0), (8, .bool r_3_1)] [] (ai (impl_within_s _ _ hr_3_1) (ai bod_61 (ai (oi (.bool r_3_1)) trivial))) ?_
  refine seqQ_norm ?_
  rcases itesome h with ⟨hb_2, h⟩ | ⟨hb_2, h⟩
  ·refine cT r_3_1 hb_2 ?_
   refine sN ?_
   refine rg0 hc 4 [(2, I 3), (3, I (wr (code0 - 3)))] [] ?_
   refine seqQ_norm ?_
   refine Wp.retN (by kernel_rfl) ?_
   refine blockQ_ret ?_
   refine seqQ_ret ?_
   obtain rfl := Option.some.inj h
   exact RetQ.ret (fl := [true, true]) (by kernel_rfl)
  ·refine cF r_3_1 hb_2 ?_
   refine sN ?_
   obtain ⟨r_5_1, hr_5_1, h⟩ := bsome h
   refine rg hc none [oN, oc (.bool r_5_1), oN] [(0, I code0), (13, .bool r_5_1)] [] (ai (impl_within_s _ _ hr_5_1) (ai bod_61 (ai (oi (.bool r_5_1)) trivial))) ?_
   refine seqQ_norm ?_
   rcases itesome h with ⟨hb_3, h⟩ | ⟨hb_3, h⟩
   ·refine cT r_5_1 hb_3 ?_
    refine sN ?_
    refine rg0 hc 4 [(2, I 4), (3, I (wr (code0 - 19)))] [] ?_
    refine seqQ_norm ?_
    refine Wp.retN (by kernel_rfl) ?_
    refine blockQ_ret ?_
    refine seqQ_ret ?_
    obtain rfl := Option.some.inj h
    exact RetQ.ret (fl := [true, true]) (by kernel_rfl)
   ·refine cF r_5_1 hb_3 ?_
    refine sN ?_
    refine rg0 hc 3 [(0, I code0), (18, .bool (code0 == 35))] [] ?_
    refine seqQ_norm ?_
    rcases itesome h with ⟨hb_4, h⟩ | ⟨hb_4, h⟩
    ·refine cT ((code0 == 35)) hb_4 ?_
     refine sN ?_
     refine rg0 hc 2 [(2, I 3), (3, I (-1))] [] ?_
     refine seqQ_norm ?_
     refine Wp.retN (by kernel_rfl) ?_
     refine blockQ_ret ?_
     refine seqQ_ret ?_
     obtain rfl := Option.some.inj h
     exact RetQ.ret (fl := [true, true]) (by kernel_rfl)
    ·refine cF ((code0 == 35)) hb_4 ?_
     refine sN ?_
     refine rg0 hc 3 [(21, .bool (code0 == 36))] [] ?_
     refine seqQ_norm ?_
     rcases itesome h with ⟨hb_5, h⟩ | ⟨hb_5, h⟩
     ·refine cT ((code0 == 36)) hb_5 ?_
      refine sN ?_
      refine rg0 hc 2 [(2, I 4), (3, I (-1))] [] ?_
      refine seqQ_norm ?_
      refine Wp.retN (by kernel_rfl) ?_
      refine blockQ_ret ?_
      refine seqQ_ret ?_
      obtain rfl := Option.some.inj h
      exact RetQ.ret (fl := [true, true]) (by kernel_rfl)
     ·refine cF ((code0 == 36)) hb_5 ?_
      refine Wp.skipN (by kernel_rfl) ?_
      refine blockQ_norm ?_
      refine seqQ_norm ?_
      refine sN ?_
      refine rg0 hc 2 [(2, I 5), (3, I (-1))] [] ?_
      refine seqQ_norm ?_
      refine Wp.retN (by kernel_rfl) ?_
      obtain rfl := Option.some.inj h
      exact RetQ.ret (fl := [true, true]) (by kernel_rfl)
def impl_typeEnd (p : (List Int) × Int) : Option (Int) :=
 match p with
 | (ty0, at1) =>
  (
   if (decide (at1 < 0)) = true then
    some (true)
   else
    some ((decide (at1 ≥ (ty0.length : Int))))
  ) >>= fun v_1 =>
  if v_1 = true then
   some (-1)
  else
   (idx ty0 at1) >>= fun e_3_2 =>
   (impl_shape e_3_2) >>= fun (r_3_4_0, r_3_4_1) =>
   if (r_3_4_0 == 0) = true then
    some (wr (at1 + 1))
   else
    if (r_3_4_0 == 4) = true then
     (impl_typeEnd (ty0, (wr (at1 + 1)))) >>= fun r_8_3 =>
     some r_8_3
    else
     if (r_3_4_0 == 5) = true then
      some (-1)
     else
      (impl_typeEnd (ty0, (wr (at1 + 1)))) >>= fun r_11_4 =>
      (impl_typeEnd (ty0, r_11_4)) >>= fun r_11_5 =>
      some r_11_5
 partial_fixpoint
def M_impl_typeEnd (p : (List Int) × Int) (r : Int) : Prop :=
 match p with
 | (ty0, at1) => FnSound Try.prog 110 [sI ty0, I at1] (I r) []
theorem impl_typeEnd_s : ∀ p r, impl_typeEnd p = some r → M_impl_typeEnd p r := by
 refine impl_typeEnd.partial_correctness M_impl_typeEnd ?_
 rintro impl_typeEnd_f impl_typeEnd_ih ⟨ty0, at1⟩ r h
 show FnSound Try.prog 110 [sI ty0, I at1] (I r) []
 refine FnSound.body0 tiok (fn := Try.f110) (code := B110) (by kernel_rfl) (by kernel_rfl) (by kernel_rfl) (by kernel_rfl) (nt := 42) (by kernel_rfl) (by kernel_rfl) (T := [(0, sI ty0), (1, I at1)]) (O := []) (by kernel_rfl) (by kernel_rfl) (fun c hc => ?_)
 refine sN ?_
 refine rg0 hc 1 [(0, sI ty0), (1, I at1)] [] ?_
 refine seqQ_norm ?_
 refine sN ?_
 refine sN ?_
 obtain ⟨v_1, hj_2, h⟩ := bsome h
 refine Wp.into (x := .normal) (mkS [(0, sI ty0), (1, I at1), (14, .bool v_1)] []) ?_ ?_
 ·replace h := hj_2
  rcases itesome h with ⟨hb_1_0, h⟩ | ⟨hb_1_0, h⟩
  ·refine rg hc none [oN, oN, oN, o_, o_, o_, o_, oT] [(0, sI ty0), (1, I at1), (14, .bool true)] [] (ar 4 (neF hb_1_0) (ai hb_1_0 trivial)) ?_
   obtain rfl := Option.some.inj h
   exact Into.mk
  ·refine rg hc none [oN, oN, oN, oN, oN, some (.eqv (.no) ⟨[(12, I (ty0.length : Int))], [], []⟩), oN, oF] [(0, sI ty0), (1, I at1), (14, .bool (decide (at1 ≥ (ty0.length : Int))))] [] (ar 3 hb_1_0 (ai (lenT (d := 12) I ty0) (ar 2 hb_1_0 trivial))) ?_
   obtain rfl := Option.some.inj h
   exact Into.mk
 ·clear hj_2
  refine seqQ_norm ?_
  rcases itesome h with ⟨hb_3, h⟩ | ⟨hb_3, h⟩
  ·refine cT v_1 hb_3 ?_
   refine sN ?_
   refine rg0 hc 1 [(4, I (-1))] [] ?_
   refine seqQ_norm ?_
   refine Wp.retN (by kernel_rfl) ?_
   refine seqQ_ret ?_
   obtain rfl := Option.some.inj h
   exact RetQ.ret (fl := [true]) (by kernel_rfl)
  ·refine cF v_1 hb_3 ?_
   refine Wp.skipN (by kernel_rfl) ?_
   refine seqQ_norm ?_
   refine sN ?_
   obtain ⟨e_3_2, hi_3_2, h⟩ := bsome h
   obtain ⟨⟨r_3_4_0, r_3_4_1⟩, hr_3_4, h⟩ := bsome h
   refine rg hc none [oN, oN, some (.el (I e_3_2)), oN, oc (.tup [I r_3_4_0, I r_3_4_1]), oN, oN, oN, oN, oN] [(0, sI ty0), (1, I at1), (5, I r_3_4_0)] [] (ai (ix hi_3_2) (ai (impl_shape_s _ _ hr_3_4) (ai bod_77 (ai (oi (.tup [I r_3_4_0, I r_3_4_1])) trivial)))) ?_
   refine seqQ_norm ?_
   refine sN ?_
   refine sN ?_
   refine rg0 hc 1 [(0, sI ty0), (1, I at1), (23, I r_3_4_0)] [] ?_
   refine seqQ_norm ?_
   refine Wp.blockN (i := 0) (by kernel_rfl) ?_
   refine sN ?_
   refine rg0 hc 2 [(0, sI ty0), (1, I at1), (23, I r_3_4_0), (24, .bool (r_3_4_0 == 0))] [] ?_
   refine seqQ_norm ?_
   rcases itesome h with ⟨hb_4, h⟩ | ⟨hb_4, h⟩
   ·refine cT ((r_3_4_0 == 0)) hb_4 ?_
    refine sN ?_
    refine rg0 hc 3 [(4, I (wr (at1 + 1)))] [] ?_
    refine seqQ_norm ?_
    refine Wp.retN (by kernel_rfl) ?_
    refine blockQ_ret ?_
    refine seqQ_ret ?_
    obtain rfl := Option.some.inj h
    exact RetQ.ret (fl := [true]) (by kernel_rfl)
   ·refine cF ((r_3_4_0 == 0)) hb_4 ?_
    refine sN ?_
    refine rg0 hc 2 [(0, sI ty0), (1, I at1), (23, I r_3_4_0), (28, .bool (r_3_4_0 == 4))] [] ?_
    refine seqQ_norm ?_
    rcases itesome h with ⟨hb_5, h⟩ | ⟨hb_5, h⟩
    ·refine cT ((r_3_4_0 == 4)) hb_5 ?_
     refine sN ?_
     obtain ⟨r_8_3, hr_8_3, h⟩ := bsome h
     refine rg hc none [oN, oN, oN, oc (I r_8_3), oN] [(4, I r_8_3)] [] (ai (impl_typeEnd_ih _ _ hr_8_3) (ai bod_110 (ai (oi (I r_8_3)) trivial))) ?_
     refine seqQ_norm ?_
     refine Wp.retN (by kernel_rfl) ?_
     refine blockQ_ret ?_
     refine seqQ_ret ?_
     obtain rfl := Option.some.inj h
     exact RetQ.ret (fl := [true]) (by kernel_rfl)
    ·refine cF ((r_3_4_0 == 4)) hb_5 ?_
     refine sN ?_
     refine rg0 hc 2 [(0, sI ty0), (1, I at1), (34, .bool (r_3_4_0 == 5))] [] ?_
     refine seqQ_norm ?_
     rcases itesome h with ⟨hb_6, h⟩ | ⟨hb_6, h⟩
     ·refine cT ((r_3_4_0 == 5)) hb_6 ?_
      refine sN ?_
      refine rg0 hc 1 [(4, I (-1))] [] ?_
      refine seqQ_norm ?_
      refine Wp.retN (by kernel_rfl) ?_
      refine blockQ_ret ?_
      refine seqQ_ret ?_
      obtain rfl := Option.some.inj h
      exact RetQ.ret (fl := [true]) (by kernel_rfl)
     ·refine cF ((r_3_4_0 == 5)) hb_6 ?_
      refine Wp.skipN (by kernel_rfl) ?_
      refine blockQ_norm ?_
      refine seqQ_norm ?_
      refine sN ?_
      obtain ⟨r_11_4, hr_11_4, h⟩ := bsome h
      obtain ⟨r_11_5, hr_11_5, h⟩ := bsome h
      refine rg hc none [oN, oN, oN, oN, oc (I r_11_4), oc (I r_11_5), oN] [(4, I r_11_5)] [] (ai (impl_typeEnd_ih _ _ hr_11_4) (ai bod_110 (ai (oi (I r_11_4)) (ai (impl_typeEnd_ih _ _ hr_11_5) (ai bod_110 (ai (oi (I r_11_5)) trivial)))))) ?_
      refine seqQ_norm ?_
      refine Wp.retN (by kernel_rfl) ?_
      obtain rfl := Option.some.inj h
      exact RetQ.ret (fl := [true]) (by kernel_rfl)
def impl_isWrittenType (ty0 : (List Int)) : Option (Bool) :=
  (
   (impl_within ((ty0.length : Int), 1, 40)) >>= fun r_1_2 =>
   if r_1_2 = true then
    (impl_typeEnd (ty0, 0)) >>= fun r_1_5 =>
    some ((r_1_5 == (ty0.length : Int)))
   else
    some (false)
  ) >>= fun v_1 =>
  some v_1
def M_impl_isWrittenType (ty0 : (List Int)) (r : Bool) : Prop :=
 FnSound Try.prog 134 [sI ty0] (.bool r) []
theorem impl_isWrittenType_s : ∀ p r, impl_isWrittenType p = some r → M_impl_isWrittenType p r := by
 rintro ty0 r h
 unfold impl_isWrittenType at h
 show FnSound Try.prog 134 [sI ty0] (.bool r) []
 refine FnSound.body0 tiok (fn := Try.f134) (code := B134) (by kernel_rfl) (by kernel_rfl) (by kernel_rfl) (by kernel_rfl) (nt := 13) (by kernel_rfl) (by kernel_rfl) (T := [(0, sI ty0)]) (O := []) (by kernel_rfl) (by kernel_rfl) (fun c hc => ?_)
 refine sN ?_
 refine rg0 hc 1 [(0, sI ty0)] [] ?_
 refine seqQ_norm ?_
 refine sN ?_
 obtain ⟨v_1, hj_2, h⟩ := bsome h
 refine Wp.into (x := .normal) (mkS [(2, .bool v_1)] []) ?_ ?_
 ·replace h := hj_2
  obtain ⟨r_1_2, hr_1_2, h⟩ := bsome h
  rcases itesome h with ⟨hb_1_0, h⟩ | ⟨hb_1_0, h⟩
  ·obtain ⟨r_1_5, hr_1_5, h⟩ := bsome h
   refine rg hc none [oN, some (.eqv (.no) ⟨[(4, I (ty0.length : Int))], [], []⟩), oc (.bool r_1_2), oN, oN, oc (I r_1_5), oN, some (.eqv (.no) ⟨[(10, I (ty0.length : Int))], [], []⟩), oN, oT, oN] [(2, .bool (r_1_5 == (ty0.length : Int)))] [] (ai (lenT (d := 4) I ty0) (ai (impl_within_s _ _ hr_1_2) (ai bod_61 (ai (oi (.bool r_1_2)) (ar 2 hb_1_0 (ai (impl_typeEnd_s _ _ hr_1_5) (ai bod_110 (ai (oi (I r_1_5)) (ar 2 hb_1_0 (ai (lenT (d := 10) I ty0) (ar 2 hb_1_0 trivial))))))))))) ?_
   obtain rfl := Option.some.inj h
   exact Into.mk
  ·refine rg hc none [oN, some (.eqv (.no) ⟨[(4, I (ty0.length : Int))], [], []⟩), oc (.bool r_1_2), oN, o_, o_, o_, o_, o_, oF, oN] [(2, .bool false)] [] (ai (lenT (d := 4) I ty0) (ai (impl_within_s _ _ hr_1_2) (ai bod_61 (ai (oi (.bool r_1_2)) (ar 5 (neT hb_1_0) (ai hb_1_0 trivial)))))) ?_
   obtain rfl := Option.some.inj h
   exact Into.mk
 ·clear hj_2
  refine seqQ_norm ?_
  refine Wp.retN (by kernel_rfl) ?_
  obtain rfl := Option.some.inj h
  exact RetQ.ret (fl := [true]) (by kernel_rfl)
def impl_isTypeOf_F1 (c : Ctx) : (Unit) ⊕ (Bool) → Exit → AState → Prop
 | .inl _ => Into c (.exit 0) (mkS [] [])
 | .inr r => RetE TIx Try.f139 [] (.bool r)
def impl_isTypeOf_l0 (p : GSystem × (List Int) × Int) : Option ((Unit) ⊕ (Bool)) :=
 match p with
 | (s0, ty1, w_6) =>
  if (decide (w_6 < (ty1.length : Int))) = true then
   (idx ty1 w_6) >>= fun e_5_0 =>
   (impl_shape e_5_0) >>= fun (r_6_1_0, r_6_1_1) =>
   (
    if (r_6_1_0 == 3) = true then
     (impl_Systemhas (s0, r_6_1_1)) >>= fun r_7_9 =>
     some ((!r_7_9))
    else
     if (r_6_1_0 == 4) = true then
      (impl_Systemhas (s0, r_6_1_1)) >>= fun r_7_9 =>
      some ((!r_7_9))
     else
      some (false)
   ) >>= fun v_8 =>
   if v_8 = true then
    some (.inr false)
   else
    impl_isTypeOf_l0 (s0, ty1, (wr (w_6 + 1)))
  else
   some (.inl ())
 partial_fixpoint
def M_impl_isTypeOf_l0 (p : GSystem × (List Int) × Int) (fl : (Unit) ⊕ (Bool)) : Prop :=
 match p with
 | (s0, ty1, w_6) => ∀ c : Ctx, c.nt = 36 → WpL Try.prog c (cl (cl (cr (cl (cr (cr B139)))))) (impl_isTypeOf_F1 c fl) (mkS [(2, .ra 1 0), (12, sI ty1), (13, I (ty1.length : Int)), (14, I w_6)] [(1, bSystem s0)])
theorem impl_isTypeOf_l0_s : ∀ p r, impl_isTypeOf_l0 p = some r → M_impl_isTypeOf_l0 p r := by
 refine impl_isTypeOf_l0.partial_correctness M_impl_isTypeOf_l0 ?_
 rintro impl_isTypeOf_l0_f impl_isTypeOf_l0_ih ⟨s0, ty1, w_6⟩ r h
 intro c hc
 show WpL Try.prog c (cl (cl (cr (cl (cr (cr B139)))))) (impl_isTypeOf_F1 c r) (mkS [(2, .ra 1 0), (12, sI ty1), (13, I (ty1.length : Int)), (14, I w_6)] [(1, bSystem s0)])
 refine WpL.step ?_
 refine sN ?_
 refine rg0 hc 1 [(2, .ra 1 0), (12, sI ty1), (13, I (ty1.length : Int)), (14, I w_6), (15, .bool (decide (w_6 < (ty1.length : Int))))] [(1, bSystem s0)] ?_
 refine seqQ_norm ?_
 refine sN ?_
 rcases itesome h with ⟨hb_7, h⟩ | ⟨hb_7, h⟩
 ·refine cT ((decide (w_6 < (ty1.length : Int)))) hb_7 ?_
  refine Wp.skipN (by kernel_rfl) ?_
  refine seqQ_norm ?_
  refine sN ?_
  refine Wp.blockN (i := 1) (by kernel_rfl) ?_
  refine sN ?_
  obtain ⟨e_5_0, hi_5_0, h⟩ := bsome h
  refine rg hc none [some (.el (I e_5_0)), oN, oN] [(2, .ra 1 0), (6, I e_5_0), (12, sI ty1), (13, I (ty1.length : Int)), (14, I w_6)] [(1, bSystem s0)] (ai (ix hi_5_0) trivial) ?_
  refine seqQ_norm ?_
  refine sN ?_
  obtain ⟨⟨r_6_1_0, r_6_1_1⟩, hr_6_1, h⟩ := bsome h
  refine rg hc none [oN, oc (.tup [I r_6_1_0, I r_6_1_1]), oN, oN, oN, oN, oN] [(2, .ra 1 0), (7, I r_6_1_0), (8, I r_6_1_1), (12, sI ty1), (13, I (ty1.length : Int)), (14, I w_6)] [(1, bSystem s0)] (ai (impl_shape_s _ _ hr_6_1) (ai bod_77 (ai (oi (.tup [I r_6_1_0, I r_6_1_1])) trivial))) ?_
  refine seqQ_norm ?_
  refine sN ?_
  obtain ⟨v_8, hj_9, h⟩ := bsome h
  refine Wp.into (x := .normal) (mkS [(2, .ra 1 0), (12, sI ty1), (13, I (ty1.length : Int)), (14, I w_6), (34, .bool v_8)] [(1, bSystem s0)]) ?_ ?_
  ·replace h := hj_9
   rcases itesome h with ⟨hb_7_0, h⟩ | ⟨hb_7_0, h⟩
   ·obtain ⟨r_7_9, hr_7_9, h⟩ := bsome h
    refine rg hc none [oN, oN, oN, o_, o_, oT, oN, oN, oN, oc (.bool r_7_9), oN, oT] [(2, .ra 1 0), (12, sI ty1), (13, I (ty1.length : Int)), (14, I w_6), (34, .bool (!r_7_9))] [(1, bSystem s0)] (ar 2 (neF hb_7_0) (ai hb_7_0 (ar 3 tt (ai (impl_Systemhas_s _ _ hr_7_9) (ai bod_84 (ai (oi (.bool r_7_9)) (ar 2 tt trivial))))))) ?_
    obtain rfl := Option.some.inj h
    exact Into.mk
   ·rcases itesome h with ⟨hb_7_1, h⟩ | ⟨hb_7_1, h⟩
    ·obtain ⟨r_7_9, hr_7_9, h⟩ := bsome h
     refine rg hc none [oN, oN, oN, oN, oN, oF, oN, oN, oN, oc (.bool r_7_9), oN, oT] [(2, .ra 1 0), (12, sI ty1), (13, I (ty1.length : Int)), (14, I w_6), (34, .bool (!r_7_9))] [(1, bSystem s0)] (ar 3 hb_7_0 (ar 3 hb_7_1 (ai (impl_Systemhas_s _ _ hr_7_9) (ai bod_84 (ai (oi (.bool r_7_9)) (ar 2 hb_7_1 trivial)))))) ?_
     obtain rfl := Option.some.inj h
     exact Into.mk
    ·refine rg hc none [oN, oN, oN, oN, oN, oF, oN, o_, o_, o_, o_, oF] [(2, .ra 1 0), (12, sI ty1), (13, I (ty1.length : Int)), (14, I w_6), (34, .bool false)] [(1, bSystem s0)] (ar 3 hb_7_0 (ar 4 (neT hb_7_1) (ai hb_7_1 trivial))) ?_
     obtain rfl := Option.some.inj h
     exact Into.mk
  ·clear hj_9
   refine seqQ_norm ?_
   rcases itesome h with ⟨hb_10, h⟩ | ⟨hb_10, h⟩
   ·refine cT v_8 hb_10 ?_
    refine sN ?_
    refine rg0 hc 1 [(4, .bool false)] [] ?_
    refine seqQ_norm ?_
    refine Wp.retN (by kernel_rfl) ?_
    refine blockQ_ret ?_
    refine seqQ_ret ?_
    refine loopQ_ret ?_
    obtain rfl := Option.some.inj h
    exact RetE.ret (fl := [true]) (by kernel_rfl)
   ·refine cF v_8 hb_10 ?_
    refine Wp.skipN (by kernel_rfl) ?_
    refine blockQ_norm ?_
    refine seqQ_norm ?_
    refine rg0 hc 2 [(2, .ra 1 0), (12, sI ty1), (13, I (ty1.length : Int)), (14, I (wr (w_6 + 1)))] [(1, bSystem s0)] ?_
    refine loopQ_norm ?_
    exact (impl_isTypeOf_l0_ih _ _ h c hc)
 ·refine cF ((decide (w_6 < (ty1.length : Int)))) hb_7 ?_
  refine Wp.exitN (i := 0) (by kernel_rfl) ?_
  refine seqQ_exit ?_
  refine loopQ_exit ?_
  obtain rfl := Option.some.inj h
  exact Into.view (fun a w hv => SRx.renL [] hv (by kernel_rfl) (by kernel_rfl) (by kernel_rfl))
def impl_isTypeOf (p : GSystem × (List Int)) : Option (Bool) :=
 match p with
 | (s0, ty1) =>
  (impl_isWrittenType ty1) >>= fun r_1_1 =>
  if r_1_1 = true then
   (impl_isTypeOf_l0 (s0, ty1, 0)) >>= fun fl => match fl with
   | .inl () =>
    some true
   | .inr r =>
    some r
  else
   some false
def M_impl_isTypeOf (p : GSystem × (List Int)) (r : Bool) : Prop :=
 match p with
 | (s0, ty1) => FnSound Try.prog 139 [aSystem s0, sI ty1] (.bool r) []
theorem impl_isTypeOf_s : ∀ p r, impl_isTypeOf p = some r → M_impl_isTypeOf p r := by
 rintro ⟨s0, ty1⟩ r h
 unfold impl_isTypeOf at h
 show FnSound Try.prog 139 [aSystem s0, sI ty1] (.bool r) []
 refine FnSound.body0 tiok (fn := Try.f139) (code := B139) (by kernel_rfl) (by kernel_rfl) (by kernel_rfl) (by kernel_rfl) (nt := 36) (by kernel_rfl) (by kernel_rfl) (T := [(0, aSystem s0), (1, sI ty1)]) (O := []) (by kernel_rfl) (by kernel_rfl) (fun c hc => ?_)
 refine sN ?_
 refine rg hc none [some (.new 1), oN] [(1, sI ty1), (2, .ra 1 0)] [(1, bSystem s0)] trivial ?_
 refine seqQ_norm ?_
 refine sN ?_
 refine sN ?_
 obtain ⟨r_1_1, hr_1_1, h⟩ := bsome h
 refine rg hc none [oN, oc (.bool r_1_1), oN] [(1, sI ty1), (2, .ra 1 0), (11, .bool (!r_1_1))] [(1, bSystem s0)] (ai (impl_isWrittenType_s _ _ hr_1_1) (ai bod_134 (ai (oi (.bool r_1_1)) trivial))) ?_
 refine seqQ_norm ?_
 rcases itesome h with ⟨hb_1, h⟩ | ⟨hb_1, h⟩
 ·refine cF (!r_1_1) (nF hb_1) ?_
  refine Wp.skipN (by kernel_rfl) ?_
  refine seqQ_norm ?_
  refine sN ?_
  refine sN ?_
  refine rg hc none [oN, some (.eqv (.no) ⟨[(13, I (ty1.length : Int))], [], []⟩), oN] [(2, .ra 1 0), (12, sI ty1), (13, I (ty1.length : Int)), (14, I 0)] [(1, bSystem s0)] (ai (lenT (d := 13) I ty1) trivial) ?_
  refine seqQ_norm ?_
  refine Wp.blockN (i := 0) (by kernel_rfl) ?_
  obtain ⟨fl, hl_11, h⟩ := bsome h
  have hL := impl_isTypeOf_l0_s _ _ hl_11 c hc
  refine Wp.loopN (by kernel_rfl) ?_
  rcases fl with ⟨⟩ | r
  ·refine WpL.into (e := (.exit 0)) (mkS [] []) hL ?_
   refine blockQ_hit ?_
   refine seqQ_norm ?_
   refine sN ?_
   refine rg0 hc 1 [(4, .bool true)] [] ?_
   refine seqQ_norm ?_
   refine Wp.retN (by kernel_rfl) ?_
   obtain rfl := Option.some.inj h
   exact RetQ.ret (fl := [true]) (by kernel_rfl)
  ·refine WpL.mono hL ?_
   rintro _ _ ⟨rfl, hfin⟩
   refine blockQ_ret ?_
   refine seqQ_ret ?_
   obtain rfl := Option.some.inj h
   exact ⟨.inl rfl, hfin⟩
 ·refine cT (!r_1_1) (nT hb_1) ?_
  refine sN ?_
  refine rg0 hc 1 [(4, .bool false)] [] ?_
  refine seqQ_norm ?_
  refine Wp.retN (by kernel_rfl) ?_
  refine seqQ_ret ?_
  obtain rfl := Option.some.inj h
  exact RetQ.ret (fl := [true]) (by kernel_rfl)
def impl_isDataOf_c1 (c0 : Int) : Option (Bool) :=
  (impl_shape c0) >>= fun (r_1_1_0, r_1_1_1) =>
  some (r_1_1_0 == 3)
def M_impl_isDataOf_c1 (c0 : Int) (r : Bool) : Prop :=
 FnSound Try.prog 141 [I c0] (.bool r) []
theorem impl_isDataOf_c1_s : ∀ p r, impl_isDataOf_c1 p = some r → M_impl_isDataOf_c1 p r := by
 rintro c0 r h
 unfold impl_isDataOf_c1 at h
 show FnSound Try.prog 141 [I c0] (.bool r) []
 refine FnSound.body0 tiok (fn := Try.f141) (code := B141) (by kernel_rfl) (by kernel_rfl) (by kernel_rfl) (by kernel_rfl) (nt := 12) (by kernel_rfl) (by kernel_rfl) (T := [(0, I c0)]) (O := []) (by kernel_rfl) (by kernel_rfl) (fun c hc => ?_)
 refine sN ?_
 refine rg0 hc 1 [(0, I c0)] [] ?_
 refine seqQ_norm ?_
 refine sN ?_
 obtain ⟨⟨r_1_1_0, r_1_1_1⟩, hr_1_1, h⟩ := bsome h
 refine rg hc none [oN, oc (.tup [I r_1_1_0, I r_1_1_1]), oN, oN, oN, oN, oN] [(3, I r_1_1_0)] [] (ai (impl_shape_s _ _ hr_1_1) (ai bod_77 (ai (oi (.tup [I r_1_1_0, I r_1_1_1])) trivial))) ?_
 refine seqQ_norm ?_
 refine sN ?_
 refine rg0 hc 3 [(2, .bool (r_1_1_0 == 3))] [] ?_
 refine seqQ_norm ?_
 refine Wp.retN (by kernel_rfl) ?_
 obtain rfl := Option.some.inj h
 exact RetQ.ret (fl := [true]) (by kernel_rfl)
def slices_IndexFunc_int_Kimpl_isDataOf_c1_F1 (c : Ctx) : (Unit) ⊕ (Int) → Exit → AState → Prop
 | .inl _ => Into c (.exit 0) (mkS [] [])
 | .inr r => RetE TIx Try.f151 [] (I r)
def slices_IndexFunc_int_Kimpl_isDataOf_c1_l0 (p : (List Int) × Int) : Option ((Unit) ⊕ (Int)) :=
 match p with
 | (s0, w_3) =>
  if (decide (w_3 < (s0.length : Int))) = true then
   (idx s0 w_3) >>= fun e_4_3 =>
   (impl_isDataOf_c1 e_4_3) >>= fun r_4_5 =>
   if r_4_5 = true then
    some (.inr w_3)
   else
    slices_IndexFunc_int_Kimpl_isDataOf_c1_l0 (s0, (wr (w_3 + 1)))
  else
   some (.inl ())
 partial_fixpoint
def M_slices_IndexFunc_int_Kimpl_isDataOf_c1_l0 (p : (List Int) × Int) (fl : (Unit) ⊕ (Int)) : Prop :=
 match p with
 | (s0, w_3) => ∀ c : Ctx, c.nt = 19 → WpL Try.prog c (cl (cl (cr (cl (cr B151))))) (slices_IndexFunc_int_Kimpl_isDataOf_c1_F1 c fl) (mkS [(0, sI s0), (1, .fn 141 []), (7, I (s0.length : Int)), (8, I w_3)] [])
theorem slices_IndexFunc_int_Kimpl_isDataOf_c1_l0_s : ∀ p r, slices_IndexFunc_int_Kimpl_isDataOf_c1_l0 p = some r → M_slices_IndexFunc_int_Kimpl_isDataOf_c1_l0 p r := by
 refine slices_IndexFunc_int_Kimpl_isDataOf_c1_l0.partial_correctness M_slices_IndexFunc_int_Kimpl_isDataOf_c1_l0 ?_
 rintro slices_IndexFunc_int_Kimpl_isDataOf_c1_l0_f slices_IndexFunc_int_Kimpl_isDataOf_c1_l0_ih ⟨s0, w_3⟩ r h
 intro c hc
 show WpL Try.prog c (cl (cl (cr (cl (cr B151))))) (slices_IndexFunc_int_Kimpl_isDataOf_c1_F1 c r) (mkS [(0, sI s0), (1, .fn 141 []), (7, I (s0.length : Int)), (8, I w_3)] [])
 refine WpL.step ?_
 refine sN ?_
 refine rg0 hc 1 [(0, sI s0), (1, .fn 141 []), (7, I (s0.length : Int)), (8, I w_3), (9, .bool (decide (w_3 < (s0.length : Int))))] [] ?_
 refine seqQ_norm ?_
 refine sN ?_
 rcases itesome h with ⟨hb_4, h⟩ | ⟨hb_4, h⟩
 ·refine cT ((decide (w_3 < (s0.length : Int)))) hb_4 ?_
  refine Wp.skipN (by kernel_rfl) ?_
  refine seqQ_norm ?_
  refine sN ?_
  refine Wp.blockN (i := 1) (by kernel_rfl) ?_
  refine sN ?_
  refine rg0 hc 2 [(0, sI s0), (1, .fn 141 []), (5, I w_3), (7, I (s0.length : Int)), (8, I w_3)] [] ?_
  refine seqQ_norm ?_
  refine sN ?_
  obtain ⟨e_4_3, hi_4_3, h⟩ := bsome h
  obtain ⟨r_4_5, hr_4_5, h⟩ := bsome h
  refine rg hc none [oN, oN, oN, some (.el (I e_4_3)), oN, oc (.bool r_4_5)] [(0, sI s0), (1, .fn 141 []), (5, I w_3), (7, I (s0.length : Int)), (8, I w_3), (16, .bool r_4_5)] [] (ai (ix hi_4_3) (ai (impl_isDataOf_c1_s _ _ hr_4_5) (ai bod_141 (ai (oi (.bool r_4_5)) trivial)))) ?_
  refine seqQ_norm ?_
  rcases itesome h with ⟨hb_5, h⟩ | ⟨hb_5, h⟩
  ·refine cT r_4_5 hb_5 ?_
   refine sN ?_
   refine rg0 hc 2 [(4, I w_3)] [] ?_
   refine seqQ_norm ?_
   refine Wp.retN (by kernel_rfl) ?_
   refine blockQ_ret ?_
   refine seqQ_ret ?_
   refine loopQ_ret ?_
   obtain rfl := Option.some.inj h
   exact RetE.ret (fl := [true]) (by kernel_rfl)
  ·refine cF r_4_5 hb_5 ?_
   refine Wp.skipN (by kernel_rfl) ?_
   refine blockQ_norm ?_
   refine seqQ_norm ?_
   refine rg0 hc 2 [(0, sI s0), (1, .fn 141 []), (7, I (s0.length : Int)), (8, I (wr (w_3 + 1)))] [] ?_
   refine loopQ_norm ?_
   exact (slices_IndexFunc_int_Kimpl_isDataOf_c1_l0_ih _ _ h c hc)
 ·refine cF ((decide (w_3 < (s0.length : Int)))) hb_4 ?_
  refine Wp.exitN (i := 0) (by kernel_rfl) ?_
  refine seqQ_exit ?_
  refine loopQ_exit ?_
  obtain rfl := Option.some.inj h
  exact Into.view (fun a w hv => SRx.renL [] hv (by kernel_rfl) (by kernel_rfl) (by kernel_rfl))
def slices_IndexFunc_int_Kimpl_isDataOf_c1 (s0 : (List Int)) : Option (Int) :=
  (slices_IndexFunc_int_Kimpl_isDataOf_c1_l0 (s0, 0)) >>= fun fl => match fl with
  | .inl () =>
   some (-1)
  | .inr r =>
   some r
def M_slices_IndexFunc_int_Kimpl_isDataOf_c1 (s0 : (List Int)) (r : Int) : Prop :=
 FnSound Try.prog 151 [sI s0, .fn 141 []] (I r) []
theorem slices_IndexFunc_int_Kimpl_isDataOf_c1_s : ∀ p r, slices_IndexFunc_int_Kimpl_isDataOf_c1 p = some r → M_slices_IndexFunc_int_Kimpl_isDataOf_c1 p r := by
 rintro s0 r h
 unfold slices_IndexFunc_int_Kimpl_isDataOf_c1 at h
 show FnSound Try.prog 151 [sI s0, .fn 141 []] (I r) []
 refine FnSound.body0 tiok (fn := Try.f151) (code := B151) (by kernel_rfl) (by kernel_rfl) (by kernel_rfl) (by kernel_rfl) (nt := 19) (by kernel_rfl) (by kernel_rfl) (T := [(0, sI s0), (1, .fn 141 [])]) (O := []) (by kernel_rfl) (by kernel_rfl) (fun c hc => ?_)
 refine sN ?_
 refine rg0 hc 1 [(0, sI s0), (1, .fn 141 [])] [] ?_
 refine seqQ_norm ?_
 refine sN ?_
 refine sN ?_
 refine rg hc none [oN, some (.eqv (.no) ⟨[(7, I (s0.length : Int))], [], []⟩), oN] [(0, sI s0), (1, .fn 141 []), (7, I (s0.length : Int)), (8, I 0)] [] (ai (lenT (d := 7) I s0) trivial) ?_
 refine seqQ_norm ?_
 refine Wp.blockN (i := 0) (by kernel_rfl) ?_
 obtain ⟨fl, hl_6, h⟩ := bsome h
 have hL := slices_IndexFunc_int_Kimpl_isDataOf_c1_l0_s _ _ hl_6 c hc
 refine Wp.loopN (by kernel_rfl) ?_
 rcases fl with ⟨⟩ | r
 ·refine WpL.into (e := (.exit 0)) (mkS [] []) hL ?_
  refine blockQ_hit ?_
  refine seqQ_norm ?_
  refine sN ?_
  refine rg0 hc 1 [(4, I (-1))] [] ?_
  refine seqQ_norm ?_
  refine Wp.retN (by kernel_rfl) ?_
  obtain rfl := Option.some.inj h
  exact RetQ.ret (fl := [true]) (by kernel_rfl)
 ·refine WpL.mono hL ?_
  rintro _ _ ⟨rfl, hfin⟩
  refine blockQ_ret ?_
  refine seqQ_ret ?_
  obtain rfl := Option.some.inj h
  exact ⟨.inl rfl, hfin⟩
def slices_ContainsFunc_int_Kimpl_isDataOf_c1 (s0 : (List Int)) : Option (Bool) :=
  (slices_IndexFunc_int_Kimpl_isDataOf_c1 s0) >>= fun r_1_2 =>
  some (decide (r_1_2 ≥ 0))
def M_slices_ContainsFunc_int_Kimpl_isDataOf_c1 (s0 : (List Int)) (r : Bool) : Prop :=
 FnSound Try.prog 140 [sI s0, .fn 141 []] (.bool r) []
theorem slices_ContainsFunc_int_Kimpl_isDataOf_c1_s : ∀ p r, slices_ContainsFunc_int_Kimpl_isDataOf_c1 p = some r → M_slices_ContainsFunc_int_Kimpl_isDataOf_c1 p r := by
 rintro s0 r h
 unfold slices_ContainsFunc_int_Kimpl_isDataOf_c1 at h
 show FnSound Try.prog 140 [sI s0, .fn 141 []] (.bool r) []
 refine FnSound.body0 tiok (fn := Try.f140) (code := B140) (by kernel_rfl) (by kernel_rfl) (by kernel_rfl) (by kernel_rfl) (nt := 9) (by kernel_rfl) (by kernel_rfl) (T := [(0, sI s0), (1, .fn 141 [])]) (O := []) (by kernel_rfl) (by kernel_rfl) (fun c hc => ?_)
 refine sN ?_
 refine rg0 hc 1 [(0, sI s0), (1, .fn 141 [])] [] ?_
 refine seqQ_norm ?_
 refine sN ?_
 obtain ⟨r_1_2, hr_1_2, h⟩ := bsome h
 refine rg hc none [oN, oN, oc (I r_1_2), oN, oN] [(4, .bool (decide (r_1_2 ≥ 0)))] [] (ai (slices_IndexFunc_int_Kimpl_isDataOf_c1_s _ _ hr_1_2) (ai bod_151 (ai (oi (I r_1_2)) trivial))) ?_
 refine seqQ_norm ?_
 refine Wp.retN (by kernel_rfl) ?_
 obtain rfl := Option.some.inj h
 exact RetQ.ret (fl := [true]) (by kernel_rfl)
def impl_isDataOf (p : GSystem × (List Int)) : Option (Bool) :=
 match p with
 | (s0, ty1) =>
  (
   (impl_isTypeOf (s0, ty1)) >>= fun r_1_2 =>
   if r_1_2 = true then
    (slices_ContainsFunc_int_Kimpl_isDataOf_c1 ty1) >>= fun r_1_5 =>
    some ((!r_1_5))
   else
    some (false)
  ) >>= fun v_1 =>
  some v_1
def M_impl_isDataOf (p : GSystem × (List Int)) (r : Bool) : Prop :=
 match p with
 | (s0, ty1) => FnSound Try.prog 109 [aSystem s0, sI ty1] (.bool r) []
theorem impl_isDataOf_s : ∀ p r, impl_isDataOf p = some r → M_impl_isDataOf p r := by
 rintro ⟨s0, ty1⟩ r h
 unfold impl_isDataOf at h
 show FnSound Try.prog 109 [aSystem s0, sI ty1] (.bool r) []
 refine FnSound.body0 tiok (fn := Try.f109) (code := B109) (by kernel_rfl) (by kernel_rfl) (by kernel_rfl) (by kernel_rfl) (nt := 13) (by kernel_rfl) (by kernel_rfl) (T := [(0, aSystem s0), (1, sI ty1)]) (O := []) (by kernel_rfl) (by kernel_rfl) (fun c hc => ?_)
 refine sN ?_
 refine rg hc none [some (.new 1), oN] [(1, sI ty1), (2, .ra 1 0)] [(1, bSystem s0)] trivial ?_
 refine seqQ_norm ?_
 refine sN ?_
 obtain ⟨v_1, hj_2, h⟩ := bsome h
 refine Wp.into (x := .normal) (mkS [(4, .bool v_1)] []) ?_ ?_
 ·replace h := hj_2
  obtain ⟨r_1_2, hr_1_2, h⟩ := bsome h
  rcases itesome h with ⟨hb_1_0, h⟩ | ⟨hb_1_0, h⟩
  ·obtain ⟨r_1_5, hr_1_5, h⟩ := bsome h
   refine rg hc none [oN, oN, oc (.bool r_1_2), oN, oN, oc (.bool r_1_5), oN, oT, oN] [(4, .bool (!r_1_5))] [] (ai (impl_isTypeOf_s _ _ hr_1_2) (ai bod_139 (ai (oi (.bool r_1_2)) (ar 2 hb_1_0 (ai (slices_ContainsFunc_int_Kimpl_isDataOf_c1_s _ _ hr_1_5) (ai bod_140 (ai (oi (.bool r_1_5)) (ar 2 hb_1_0 trivial)))))))) ?_
   obtain rfl := Option.some.inj h
   exact Into.mk
  ·refine rg hc none [oN, oN, oc (.bool r_1_2), oN, o_, o_, o_, oF, oN] [(4, .bool false)] [] (ai (impl_isTypeOf_s _ _ hr_1_2) (ai bod_139 (ai (oi (.bool r_1_2)) (ar 3 (neT hb_1_0) (ai hb_1_0 trivial))))) ?_
   obtain rfl := Option.some.inj h
   exact Into.mk
 ·clear hj_2
  refine seqQ_norm ?_
  refine Wp.retN (by kernel_rfl) ?_
  obtain rfl := Option.some.inj h
  exact RetQ.ret (fl := [true]) (by kernel_rfl)
def impl_IsData (p : GSystem × (List Int)) : Option (Bool) :=
 match p with
 | (s0, ty1) =>
  (
   (impl_isDataOf (s0, ty1)) >>= fun r_1_2 =>
   if r_1_2 = true then
    (impl_IsSystem s0) >>= fun r_1_5 =>
    some (r_1_5)
   else
    some (false)
  ) >>= fun v_1 =>
  some v_1
def M_impl_IsData (p : GSystem × (List Int)) (r : Bool) : Prop :=
 match p with
 | (s0, ty1) => FnSound Try.prog 75 [aSystem s0, sI ty1] (.bool r) []
theorem impl_IsData_s : ∀ p r, impl_IsData p = some r → M_impl_IsData p r := by
 rintro ⟨s0, ty1⟩ r h
 unfold impl_IsData at h
 show FnSound Try.prog 75 [aSystem s0, sI ty1] (.bool r) []
 refine FnSound.body0 tiok (fn := Try.f75) (code := B75) (by kernel_rfl) (by kernel_rfl) (by kernel_rfl) (by kernel_rfl) (nt := 12) (by kernel_rfl) (by kernel_rfl) (T := [(0, aSystem s0), (1, sI ty1)]) (O := []) (by kernel_rfl) (by kernel_rfl) (fun c hc => ?_)
 refine sN ?_
 refine rg hc none [some (.new 1), oN] [(1, sI ty1), (2, .ra 1 0)] [(1, bSystem s0)] trivial ?_
 refine seqQ_norm ?_
 refine sN ?_
 obtain ⟨v_1, hj_2, h⟩ := bsome h
 refine Wp.into (x := .normal) (mkS [(4, .bool v_1)] []) ?_ ?_
 ·replace h := hj_2
  obtain ⟨r_1_2, hr_1_2, h⟩ := bsome h
  rcases itesome h with ⟨hb_1_0, h⟩ | ⟨hb_1_0, h⟩
  ·obtain ⟨r_1_5, hr_1_5, h⟩ := bsome h
   refine rg hc none [oN, oN, oc (.bool r_1_2), oN, oN, oc (.bool r_1_5), oT, oN] [(4, .bool r_1_5)] [] (ai (impl_isDataOf_s _ _ hr_1_2) (ai bod_109 (ai (oi (.bool r_1_2)) (ar 2 hb_1_0 (ai (impl_IsSystem_s _ _ hr_1_5) (ai bod_83 (ai (oi (.bool r_1_5)) (ai hb_1_0 trivial)))))))) ?_
   obtain rfl := Option.some.inj h
   exact Into.mk
  ·refine rg hc none [oN, oN, oc (.bool r_1_2), oN, o_, o_, oF, oN] [(4, .bool false)] [] (ai (impl_isDataOf_s _ _ hr_1_2) (ai bod_109 (ai (oi (.bool r_1_2)) (ar 2 (neT hb_1_0) (ai hb_1_0 trivial))))) ?_
   obtain rfl := Option.some.inj h
   exact Into.mk
 ·clear hj_2
  refine seqQ_norm ?_
  refine Wp.retN (by kernel_rfl) ?_
  obtain rfl := Option.some.inj h
  exact RetQ.ret (fl := [true]) (by kernel_rfl)
def impl_parts_F1 (c : Ctx) : (List (List Int)) → Exit → AState → Prop
 | out_6 => Into c (.exit 0) (mkS [(3, .rs 3)] [(3, .arr (List.map LI_s out_6))])
def impl_parts_l0 (p : (List Int) × (List (List Int)) × Int) : Option ((List (List Int))) :=
 match p with
 | (ty0, out_4, at_2) =>
  if (decide (at_2 < (ty0.length : Int))) = true then
   (impl_typeEnd (ty0, at_2)) >>= fun r_4_2 =>
   (cut ty0 (some at_2) (some r_4_2) (some r_4_2)) >>= fun c_5_5 =>
   (fits (out_4.length + [c_5_5].length) 24) >>= fun _ =>
   impl_parts_l0 (ty0, (out_4 ++ [c_5_5]), r_4_2)
  else
   some (out_4)
 partial_fixpoint
def M_impl_parts_l0 (p : (List Int) × (List (List Int)) × Int) (fl : (List (List Int))) : Prop :=
 match p with
 | (ty0, out_4, at_2) => ∀ c : Ctx, c.nt = 23 → WpL Try.prog c (cl (cl (cr (cl (cr (cr B78)))))) (impl_parts_F1 c fl) (mkS [(0, sI ty0), (3, .rs 3), (4, I at_2)] [(3, .arr (List.map LI_s out_4))])
theorem impl_parts_l0_s : ∀ p r, impl_parts_l0 p = some r → M_impl_parts_l0 p r := by
 refine impl_parts_l0.partial_correctness M_impl_parts_l0 ?_
 rintro impl_parts_l0_f impl_parts_l0_ih ⟨ty0, out_4, at_2⟩ r h
 intro c hc
 show WpL Try.prog c (cl (cl (cr (cl (cr (cr B78)))))) (impl_parts_F1 c r) (mkS [(0, sI ty0), (3, .rs 3), (4, I at_2)] [(3, .arr (List.map LI_s out_4))])
 refine WpL.step ?_
 refine sN ?_
 refine sN ?_
 refine rg hc none [oN, oN, some (.eqv (.no) ⟨[(8, I (ty0.length : Int))], [], []⟩), oN] [(0, sI ty0), (3, .rs 3), (4, I at_2), (9, .bool (decide (at_2 < (ty0.length : Int))))] [(3, .arr (List.map LI_s out_4))] (ai (lenT (d := 8) I ty0) trivial) ?_
 refine seqQ_norm ?_
 rcases itesome h with ⟨hb_5, h⟩ | ⟨hb_5, h⟩
 ·refine cT ((decide (at_2 < (ty0.length : Int)))) hb_5 ?_
  refine Wp.skipN (by kernel_rfl) ?_
  refine seqQ_norm ?_
  refine Wp.blockN (i := 1) (by kernel_rfl) ?_
  refine sN ?_
  obtain ⟨r_4_2, hr_4_2, h⟩ := bsome h
  refine rg hc none [oN, oN, oc (I r_4_2), oN] [(0, sI ty0), (3, .rs 3), (4, I at_2), (5, I r_4_2)] [(3, .arr (List.map LI_s out_4))] (ai (impl_typeEnd_s _ _ hr_4_2) (ai bod_110 (ai (oi (I r_4_2)) trivial))) ?_
  refine seqQ_norm ?_
  refine sN ?_
  obtain ⟨c_5_5, hs_5_5, h⟩ := bsome h
  obtain ⟨_, hk_5_7, h⟩ := bsome h
  refine rg hc none [oN, oN, oN, oN, oN, some (.eqv (.no) ⟨[(18, sI c_5_5)], [], []⟩), some (.mk 6 false), some (.eqv (.mk 7 true) ⟨[(20, .rs 7)], [(7, some (.arr (List.map LI_s (out_4 ++ [c_5_5])))), (3, none), (6, none)], [7]⟩), oN] [(0, sI ty0), (3, .rs 7), (5, I r_4_2)] [(7, .arr (List.map LI_s (out_4 ++ [c_5_5])))] (ai (cut_wr (d := 18) I hs_5_5) (ai (cut_ob (enc := I) (sz := 1) sz_I hs_5_5) (ai (congrArg (fun z => (⟨[(20, .rs 7)], [(7, some (.arr z)), (3, none), (6, none)], [7]⟩ : Wr)) ((List.map_append).symm : (List.map LI_s out_4) ++ (List.map LI_s [c_5_5]) = List.map LI_s (out_4 ++ [c_5_5]))) (ai (app_ob (enc1 := LI_s) (enc2 := LI_s) (e1 := out_4) (e2 := [c_5_5]) (sz := 1) ek_LI_s ek_LI_s hk_5_7) trivial)))) ?_
  refine seqQ_norm ?_
  refine rg0 hc 2 [(0, sI ty0), (3, .rs 7), (4, I r_4_2)] [(7, .arr (List.map LI_s (out_4 ++ [c_5_5])))] ?_
  refine blockQ_norm ?_
  refine loopQ_norm ?_
  exact WpL.view (fun a w hv => SRx.renL [(3, 7)] hv (by kernel_rfl) (by kernel_rfl) (by kernel_rfl)) (impl_parts_l0_ih _ _ h c hc)
 ·refine cF ((decide (at_2 < (ty0.length : Int)))) hb_5 ?_
  refine Wp.exitN (i := 0) (by kernel_rfl) ?_
  refine seqQ_exit ?_
  refine loopQ_exit ?_
  obtain rfl := Option.some.inj h
  exact Into.view (fun a w hv => SRx.renL [] hv (by kernel_rfl) (by kernel_rfl) (by kernel_rfl))
def impl_parts (ty0 : (List Int)) : Option ((List (List Int))) :=
  (impl_parts_l0 (ty0, [], 1)) >>= fun out_6 =>
  some out_6
def M_impl_parts (ty0 : (List Int)) (r : (List (List Int))) : Prop :=
 FnSound Try.prog 78 [sI ty0] (.osl (List.map LI_s r)) []
theorem impl_parts_s : ∀ p r, impl_parts p = some r → M_impl_parts p r := by
 rintro ty0 r h
 unfold impl_parts at h
 show FnSound Try.prog 78 [sI ty0] (.osl (List.map LI_s r)) []
 refine FnSound.body0 tiok (fn := Try.f78) (code := B78) (by kernel_rfl) (by kernel_rfl) (by kernel_rfl) (by kernel_rfl) (nt := 23) (by kernel_rfl) (by kernel_rfl) (T := [(0, sI ty0)]) (O := []) (by kernel_rfl) (by kernel_rfl) (fun c hc => ?_)
 refine sN ?_
 refine rg0 hc 1 [(0, sI ty0)] [] ?_
 refine seqQ_norm ?_
 refine sN ?_
 refine rg0 hc 1 [(0, sI ty0), (3, .nils)] [] ?_
 refine seqQ_norm ?_
 refine sN ?_
 refine sN ?_
 refine rg0 hc 1 [(0, sI ty0), (3, .nils), (4, I 1)] [] ?_
 refine seqQ_norm ?_
 refine Wp.blockN (i := 0) (by kernel_rfl) ?_
 obtain ⟨out_6, hl_7, h⟩ := bsome h
 have hL := impl_parts_l0_s _ _ hl_7 c hc
 refine Wp.loopN (by kernel_rfl) (WpL.view (fun a w hv => SRx.renL [(3, 8)] (SRx.nilTL 3 8 hv (by kernel_rfl) (by kernel_rfl)) (by kernel_rfl) (by kernel_rfl) (by kernel_rfl)) (?_ : WpL _ c _ _ (mkS [(0, sI ty0), (3, .rs 3), (4, I 1)] [(3, .arr (List.map LI_s []))])))
 ·refine WpL.into (e := (.exit 0)) (mkS [(3, .rs 3)] [(3, .arr (List.map LI_s out_6))]) hL ?_
  refine blockQ_hit ?_
  refine seqQ_norm ?_
  refine sN ?_
  refine rg0 hc 2 [(2, .rs 3)] [(3, .arr (List.map LI_s out_6))] ?_
  refine seqQ_norm ?_
  refine Wp.retN (by kernel_rfl) ?_
  obtain rfl := Option.some.inj h
  exact RetQ.ret (fl := [true]) (by kernel_rfl)
def slices_Equal_int_F1 (c : Ctx) : (Unit) ⊕ (Bool) → Exit → AState → Prop
 | .inl _ => Into c (.exit 0) (mkS [] [])
 | .inr r => RetE TIx Try.f79 [] (.bool r)
def slices_Equal_int_l0 (p : (List Int) × (List Int) × Int) : Option ((Unit) ⊕ (Bool)) :=
 match p with
 | (s10, s21, w_4) =>
  if (decide (w_4 < (s10.length : Int))) = true then
   (idx s10 w_4) >>= fun e_6_2 =>
   (idx s21 w_4) >>= fun e_6_6 =>
   if (e_6_2 != e_6_6) = true then
    some (.inr false)
   else
    slices_Equal_int_l0 (s10, s21, (wr (w_4 + 1)))
  else
   some (.inl ())
 partial_fixpoint
def M_slices_Equal_int_l0 (p : (List Int) × (List Int) × Int) (fl : (Unit) ⊕ (Bool)) : Prop :=
 match p with
 | (s10, s21, w_4) => ∀ c : Ctx, c.nt = 26 → WpL Try.prog c (cl (cl (cr (cl (cr (cr B79)))))) (slices_Equal_int_F1 c fl) (mkS [(0, sI s10), (1, sI s21), (12, I (s10.length : Int)), (13, I w_4)] [])
theorem slices_Equal_int_l0_s : ∀ p r, slices_Equal_int_l0 p = some r → M_slices_Equal_int_l0 p r := by
 refine slices_Equal_int_l0.partial_correctness M_slices_Equal_int_l0 ?_
 rintro slices_Equal_int_l0_f slices_Equal_int_l0_ih ⟨s10, s21, w_4⟩ r h
 intro c hc
 show WpL Try.prog c (cl (cl (cr (cl (cr (cr B79)))))) (slices_Equal_int_F1 c r) (mkS [(0, sI s10), (1, sI s21), (12, I (s10.length : Int)), (13, I w_4)] [])
 refine WpL.step ?_
 refine sN ?_
 refine rg0 hc 1 [(0, sI s10), (1, sI s21), (12, I (s10.length : Int)), (13, I w_4), (14, .bool (decide (w_4 < (s10.length : Int))))] [] ?_
 refine seqQ_norm ?_
 refine sN ?_
 rcases itesome h with ⟨hb_5, h⟩ | ⟨hb_5, h⟩
 ·refine cT ((decide (w_4 < (s10.length : Int)))) hb_5 ?_
  refine Wp.skipN (by kernel_rfl) ?_
  refine seqQ_norm ?_
  refine sN ?_
  refine Wp.blockN (i := 1) (by kernel_rfl) ?_
  refine sN ?_
  refine rg0 hc 2 [(0, sI s10), (1, sI s21), (5, I w_4), (12, I (s10.length : Int)), (13, I w_4)] [] ?_
  refine seqQ_norm ?_
  refine sN ?_
  obtain ⟨e_6_2, hi_6_2, h⟩ := bsome h
  obtain ⟨e_6_6, hi_6_6, h⟩ := bsome h
  refine rg hc (rx [[0], [0], [2], [3], [0], [0], [0, 4, 5], [0, 4, 5, 6], [8]]) [oN, oN, some (.el (I e_6_2)), oN, oN, oN, some (.el (I e_6_6)), oN, oN] [(0, sI s10), (1, sI s21), (12, I (s10.length : Int)), (13, I w_4), (24, .bool (e_6_2 != e_6_6))] [] (ai (ix hi_6_2) (ai (ix hi_6_6) trivial)) ?_
  refine seqQ_norm ?_
  rcases itesome h with ⟨hb_6, h⟩ | ⟨hb_6, h⟩
  ·refine cT ((e_6_2 != e_6_6)) hb_6 ?_
   refine sN ?_
   refine rg0 hc 1 [(4, .bool false)] [] ?_
   refine seqQ_norm ?_
   refine Wp.retN (by kernel_rfl) ?_
   refine blockQ_ret ?_
   refine seqQ_ret ?_
   refine loopQ_ret ?_
   obtain rfl := Option.some.inj h
   exact RetE.ret (fl := [true]) (by kernel_rfl)
  ·refine cF ((e_6_2 != e_6_6)) hb_6 ?_
   refine Wp.skipN (by kernel_rfl) ?_
   refine blockQ_norm ?_
   refine seqQ_norm ?_
   refine rg0 hc 2 [(0, sI s10), (1, sI s21), (12, I (s10.length : Int)), (13, I (wr (w_4 + 1)))] [] ?_
   refine loopQ_norm ?_
   exact (slices_Equal_int_l0_ih _ _ h c hc)
 ·refine cF ((decide (w_4 < (s10.length : Int)))) hb_5 ?_
  refine Wp.exitN (i := 0) (by kernel_rfl) ?_
  refine seqQ_exit ?_
  refine loopQ_exit ?_
  obtain rfl := Option.some.inj h
  exact Into.view (fun a w hv => SRx.renL [] hv (by kernel_rfl) (by kernel_rfl) (by kernel_rfl))
def slices_Equal_int (p : (List Int) × (List Int)) : Option (Bool) :=
 match p with
 | (s10, s21) =>
  if ((s10.length : Int) != (s21.length : Int)) = true then
   some false
  else
   (slices_Equal_int_l0 (s10, s21, 0)) >>= fun fl => match fl with
   | .inl () =>
    some true
   | .inr r =>
    some r
def M_slices_Equal_int (p : (List Int) × (List Int)) (r : Bool) : Prop :=
 match p with
 | (s10, s21) => FnSound Try.prog 79 [sI s10, sI s21] (.bool r) []
theorem slices_Equal_int_s : ∀ p r, slices_Equal_int p = some r → M_slices_Equal_int p r := by
 rintro ⟨s10, s21⟩ r h
 unfold slices_Equal_int at h
 show FnSound Try.prog 79 [sI s10, sI s21] (.bool r) []
 refine FnSound.body0 tiok (fn := Try.f79) (code := B79) (by kernel_rfl) (by kernel_rfl) (by kernel_rfl) (by kernel_rfl) (nt := 26) (by kernel_rfl) (by kernel_rfl) (T := [(0, sI s10), (1, sI s21)]) (O := []) (by kernel_rfl) (by kernel_rfl) (fun c hc => ?_)
 refine sN ?_
 refine rg0 hc 1 [(0, sI s10), (1, sI s21)] [] ?_
 refine seqQ_norm ?_
 refine sN ?_
 refine sN ?_
 refine rg hc none [oN, some (.eqv (.no) ⟨[(7, I (s10.length : Int))], [], []⟩), oN, some (.eqv (.no) ⟨[(9, I (s21.length : Int))], [], []⟩), oN] [(0, sI s10), (1, sI s21), (10, .bool ((s10.length : Int) != (s21.length : Int)))] [] (ai (lenT (d := 7) I s10) (ai (lenT (d := 9) I s21) trivial)) ?_
 refine seqQ_norm ?_
 rcases itesome h with ⟨hb_1, h⟩ | ⟨hb_1, h⟩
 ·refine cT (((s10.length : Int) != (s21.length : Int))) hb_1 ?_
  refine sN ?_
  refine rg0 hc 1 [(4, .bool false)] [] ?_
  refine seqQ_norm ?_
  refine Wp.retN (by kernel_rfl) ?_
  refine seqQ_ret ?_
  obtain rfl := Option.some.inj h
  exact RetQ.ret (fl := [true]) (by kernel_rfl)
 ·refine cF (((s10.length : Int) != (s21.length : Int))) hb_1 ?_
  refine Wp.skipN (by kernel_rfl) ?_
  refine seqQ_norm ?_
  refine sN ?_
  refine sN ?_
  refine rg hc none [oN, some (.eqv (.no) ⟨[(12, I (s10.length : Int))], [], []⟩), oN] [(0, sI s10), (1, sI s21), (12, I (s10.length : Int)), (13, I 0)] [] (ai (lenT (d := 12) I s10) trivial) ?_
  refine seqQ_norm ?_
  refine Wp.blockN (i := 0) (by kernel_rfl) ?_
  obtain ⟨fl, hl_7, h⟩ := bsome h
  have hL := slices_Equal_int_l0_s _ _ hl_7 c hc
  refine Wp.loopN (by kernel_rfl) ?_
  rcases fl with ⟨⟩ | r
  ·refine WpL.into (e := (.exit 0)) (mkS [] []) hL ?_
   refine blockQ_hit ?_
   refine seqQ_norm ?_
   refine sN ?_
   refine rg0 hc 1 [(4, .bool true)] [] ?_
   refine seqQ_norm ?_
   refine Wp.retN (by kernel_rfl) ?_
   obtain rfl := Option.some.inj h
   exact RetQ.ret (fl := [true]) (by kernel_rfl)
  ·refine WpL.mono hL ?_
   rintro _ _ ⟨rfl, hfin⟩
   refine blockQ_ret ?_
   refine seqQ_ret ?_
   obtain rfl := Option.some.inj h
   exact ⟨.inl rfl, hfin⟩
end Go.Am
