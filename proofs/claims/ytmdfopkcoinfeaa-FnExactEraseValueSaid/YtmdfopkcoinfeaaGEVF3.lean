/- Functions of the program as pure functions, and that it computes them. Printed by a program of mine (gen.py). -/
import Derived.Test.YtmdfopkcoinfeaaGEVF2
set_option linter.unusedVariables false
set_option linter.unusedSimpArgs false
set_option maxRecDepth 100000
namespace Go.Am
open Go Go.Proofs
def ah3_0 : Option (List (List Nat)) := rx [[0], [0], [2], [3], [0], [0, 4], [0, 4, 5], [7], [8], [9], [10], [11], [12], [13], [13], [15], [16], [13], [13], [13, 18], [13, 17, 18, 19], [13, 17, 18, 19, 20], [22], [23], [24]]
def spec_l1View_F2 (c : Ctx) : (Unit) ⊕ (Bool) → Exit → AState → Prop
 | .inl _ => Into c (.exit 0) (mkS [] [])
 | .inr r => RetE TIx Try.f81 [] (.bool r)
def spec_l1View_l1 (p : GSystem × (List Bool) × Int) : Option ((Unit) ⊕ (Bool)) :=
 match p with
 | (s0, in1, a_15) =>
  if (decide (a_15 < s0.fSize)) = true then
   (spec_l1View_l0 (s0, in1, a_15, 0)) >>= fun fl => match fl with
   | .inl () =>
    spec_l1View_l1 (s0, in1, (wr (a_15 + 1)))
   | .inr r =>
    some (.inr r)
  else
   some (.inl ())
 partial_fixpoint
def M_spec_l1View_l1 (p : GSystem × (List Bool) × Int) (fl : (Unit) ⊕ (Bool)) : Prop :=
 match p with
 | (s0, in1, a_15) => ∀ c : Ctx, c.nt = 85 → WpL Try.prog c (cl (cl (cr (cl (cr (cr B81)))))) (spec_l1View_F2 c fl) (mkS [(1, sB in1), (2, .ra 1 0), (5, I a_15)] [(1, bSystem s0)])
theorem spec_l1View_l1_s : ∀ p r, spec_l1View_l1 p = some r → M_spec_l1View_l1 p r := by
 refine spec_l1View_l1.partial_correctness M_spec_l1View_l1 ?_
 rintro spec_l1View_l1_f spec_l1View_l1_ih ⟨s0, in1, a_15⟩ r h
 intro c hc
 show WpL Try.prog c (cl (cl (cr (cl (cr (cr B81)))))) (spec_l1View_F2 c r) (mkS [(1, sB in1), (2, .ra 1 0), (5, I a_15)] [(1, bSystem s0)])
 refine WpL.step ?_
 refine sN ?_
 refine sN ?_
 refine rg0 hc 4 [(1, sB in1), (2, .ra 1 0), (5, I a_15), (19, .bool (decide (a_15 < s0.fSize)))] [(1, bSystem s0)] ?_
 refine seqQ_norm ?_
 rcases itesome h with ⟨hb_16, h⟩ | ⟨hb_16, h⟩
 ·refine cT ((decide (a_15 < s0.fSize))) hb_16 ?_
  refine Wp.skipN (by kernel_rfl) ?_
  refine seqQ_norm ?_
  refine sN ?_
  refine Wp.blockN (i := 1) (by kernel_rfl) ?_
  refine sN ?_
  refine rg0 hc 1 [(1, sB in1), (2, .ra 1 0), (5, I a_15), (6, I 0)] [(1, bSystem s0)] ?_
  refine seqQ_norm ?_
  refine Wp.blockN (i := 2) (by kernel_rfl) ?_
  obtain ⟨fl, hl_26, h⟩ := bsome h
  have hL := spec_l1View_l0_s _ _ hl_26 c hc
  refine Wp.loopN (by kernel_rfl) ?_
  rcases fl with ⟨⟩ | r
  ·refine WpL.into (e := (.exit 2)) (mkS [(1, sB in1), (2, .ra 1 0), (5, I a_15)] [(1, bSystem s0)]) hL ?_
   refine blockQ_hit ?_
   refine blockQ_norm ?_
   refine seqQ_norm ?_
   refine rg0 hc 3 [(1, sB in1), (2, .ra 1 0), (5, I (wr (a_15 + 1)))] [(1, bSystem s0)] ?_
   refine loopQ_norm ?_
   exact (spec_l1View_l1_ih _ _ h c hc)
  ·refine WpL.mono hL ?_
   rintro _ _ ⟨rfl, hfin⟩
   refine blockQ_ret ?_
   refine blockQ_ret ?_
   refine seqQ_ret ?_
   refine loopQ_ret ?_
   obtain rfl := Option.some.inj h
   exact ⟨rfl, hfin⟩
 ·refine cF ((decide (a_15 < s0.fSize))) hb_16 ?_
  refine Wp.exitN (i := 0) (by kernel_rfl) ?_
  refine seqQ_exit ?_
  refine loopQ_exit ?_
  obtain rfl := Option.some.inj h
  exact Into.view (fun a w hv => SRx.renL [] hv (by kernel_rfl) (by kernel_rfl) (by kernel_rfl))
def spec_l1View (p : GSystem × (List Bool)) : Option (Bool) :=
 match p with
 | (s0, in1) =>
  (
   (idx in1 0) >>= fun e_1_1 =>
   if e_1_1 = true then
    some (true)
   else
    (idx in1 1) >>= fun e_1_5 =>
    some ((!e_1_5))
  ) >>= fun v_1 =>
  if v_1 = true then
   some false
  else
   (spec_l1View_l1 (s0, in1, 0)) >>= fun fl => match fl with
   | .inl () =>
    some true
   | .inr r =>
    some r
def M_spec_l1View (p : GSystem × (List Bool)) (r : Bool) : Prop :=
 match p with
 | (s0, in1) => FnSound Try.prog 81 [aSystem s0, sB in1] (.bool r) []
theorem spec_l1View_s : ∀ p r, spec_l1View p = some r → M_spec_l1View p r := by
 rintro ⟨s0, in1⟩ r h
 unfold spec_l1View at h
 show FnSound Try.prog 81 [aSystem s0, sB in1] (.bool r) []
 refine FnSound.body0 tiok (fn := Try.f81) (code := B81) (by kernel_rfl) (by kernel_rfl) (by kernel_rfl) (by kernel_rfl) (nt := 85) (by kernel_rfl) (by kernel_rfl) (T := [(0, aSystem s0), (1, sB in1)]) (O := []) (by kernel_rfl) (by kernel_rfl) (fun c hc => ?_)
 refine sN ?_
 refine rg hc none [some (.new 1), oN] [(1, sB in1), (2, .ra 1 0)] [(1, bSystem s0)] trivial ?_
 refine seqQ_norm ?_
 refine sN ?_
 refine sN ?_
 obtain ⟨v_1, hj_2, h⟩ := bsome h
 refine Wp.into (x := .normal) (mkS [(1, sB in1), (2, .ra 1 0), (15, .bool v_1)] [(1, bSystem s0)]) ?_ ?_
 ·replace h := hj_2
  obtain ⟨e_1_1, hi_1_1, h⟩ := bsome h
  rcases itesome h with ⟨hb_1_0, h⟩ | ⟨hb_1_0, h⟩
  ·refine rg hc none [oN, some (.el (.bool e_1_1)), oN, oN, o_, o_, o_, o_, oT] [(1, sB in1), (2, .ra 1 0), (15, .bool true)] [(1, bSystem s0)] (ai (idx_sl (enc := AV.bool) (x := .bool e_1_1) hi_1_1 (eq_B e_1_1)) (ar 4 (neF hb_1_0) (ai hb_1_0 trivial))) ?_
   obtain rfl := Option.some.inj h
   exact Into.mk
  ·obtain ⟨e_1_5, hi_1_5, h⟩ := bsome h
   refine rg hc none [oN, some (.el (.bool e_1_1)), oN, oN, oN, some (.el (.bool e_1_5)), oN, oN, oF] [(1, sB in1), (2, .ra 1 0), (15, .bool (!e_1_5))] [(1, bSystem s0)] (ai (idx_sl (enc := AV.bool) (x := .bool e_1_1) hi_1_1 (eq_B e_1_1)) (ar 2 hb_1_0 (ai (idx_sl (enc := AV.bool) (x := .bool e_1_5) hi_1_5 (eq_B e_1_5)) (ar 3 hb_1_0 trivial)))) ?_
   obtain rfl := Option.some.inj h
   exact Into.mk
 ·clear hj_2
  refine seqQ_norm ?_
  rcases itesome h with ⟨hb_3, h⟩ | ⟨hb_3, h⟩
  ·refine cT v_1 hb_3 ?_
   refine sN ?_
   refine rg0 hc 1 [(4, .bool false)] [] ?_
   refine seqQ_norm ?_
   refine Wp.retN (by kernel_rfl) ?_
   refine seqQ_ret ?_
   obtain rfl := Option.some.inj h
   exact RetQ.ret (fl := [true]) (by kernel_rfl)
  ·refine cF v_1 hb_3 ?_
   refine Wp.skipN (by kernel_rfl) ?_
   refine seqQ_norm ?_
   refine sN ?_
   refine sN ?_
   refine rg0 hc 1 [(1, sB in1), (2, .ra 1 0), (5, I 0)] [(1, bSystem s0)] ?_
   refine seqQ_norm ?_
   refine Wp.blockN (i := 0) (by kernel_rfl) ?_
   obtain ⟨fl, hl_27, h⟩ := bsome h
   have hL := spec_l1View_l1_s _ _ hl_27 c hc
   refine Wp.loopN (by kernel_rfl) ?_
   rcases fl with ⟨⟩ | r
   ·refine WpL.into (e := (.exit 0)) (mkS [] []) hL ?_
    refine blockQ_hit ?_
    refine seqQ_norm ?_
    refine sN ?_
    refine rg0 hc 1 [(4, .bool true)] [] ?_
    refine seqQ_norm ?_
    refine Wp.retN (by kernel_rfl) ?_
    obtain rfl := Option.some.inj h
    exact RetQ.ret (fl := [true]) (by kernel_rfl)
   ·refine WpL.mono hL ?_
    rintro _ _ ⟨rfl, hfin⟩
    refine blockQ_ret ?_
    refine seqQ_ret ?_
    obtain rfl := Option.some.inj h
    exact ⟨.inl rfl, hfin⟩
def spec_IsView_F1 (c : Ctx) (s0 : GSystem) : ((List Bool)) ⊕ (Bool) → Exit → AState → Prop
 | .inl in_12 => Into c (.exit 0) (mkS [(2, .ra 1 0), (5, .rs 2)] [(1, bSystem s0), (2, .arr (List.map AV.bool in_12))])
 | .inr r => RetE TIx Try.f44 [] (.bool r)
def spec_IsView_l0 (p : GSystem × (List Int) × (List Bool) × Int) : Option (((List Bool)) ⊕ (Bool)) :=
 match p with
 | (s0, v1, in_6, i_7) =>
  if (decide (i_7 < (v1.length : Int))) = true then
   (
    (idx v1 i_7) >>= fun e_7_2 =>
    (spec_l1In (e_7_2, 0, (wr (s0.fSize - 1)))) >>= fun r_7_7 =>
    if r_7_7 = true then
     if (decide (i_7 > 0)) = true then
      (idx v1 i_7) >>= fun e_7_15 =>
      (idx v1 (wr (i_7 - 1))) >>= fun e_7_20 =>
      some ((decide (e_7_15 ≤ e_7_20)))
     else
      some (false)
    else
     some (true)
   ) >>= fun v_9 =>
   if v_9 = true then
    some (.inr false)
   else
    (idx v1 i_7) >>= fun e_9_3 =>
    (idx in_6 e_9_3) >>= fun e_9_5 =>
    spec_IsView_l0 (s0, v1, (List.set in_6 (Int.toNat e_9_3) true), (wr (i_7 + 1)))
  else
   some (.inl in_6)
 partial_fixpoint
def M_spec_IsView_l0 (p : GSystem × (List Int) × (List Bool) × Int) (fl : ((List Bool)) ⊕ (Bool)) : Prop :=
 match p with
 | (s0, v1, in_6, i_7) => ∀ c : Ctx, c.nt = 53 → WpL Try.prog c (cl (cl (cr (cl (cr (cr (cr B44))))))) (spec_IsView_F1 c s0 fl) (mkS [(1, sI v1), (2, .ra 1 0), (5, .rs 2), (6, I i_7)] [(1, bSystem s0), (2, .arr (List.map AV.bool in_6))])
theorem spec_IsView_l0_s : ∀ p r, spec_IsView_l0 p = some r → M_spec_IsView_l0 p r := by
 refine spec_IsView_l0.partial_correctness M_spec_IsView_l0 ?_
 rintro spec_IsView_l0_f spec_IsView_l0_ih ⟨s0, v1, in_6, i_7⟩ r h
 intro c hc
 show WpL Try.prog c (cl (cl (cr (cl (cr (cr (cr B44))))))) (spec_IsView_F1 c s0 r) (mkS [(1, sI v1), (2, .ra 1 0), (5, .rs 2), (6, I i_7)] [(1, bSystem s0), (2, .arr (List.map AV.bool in_6))])
 refine WpL.step ?_
 refine sN ?_
 refine sN ?_
 refine rg hc none [oN, oN, some (.eqv (.no) ⟨[(15, I (v1.length : Int))], [], []⟩), oN] [(1, sI v1), (2, .ra 1 0), (5, .rs 2), (6, I i_7), (16, .bool (decide (i_7 < (v1.length : Int))))] [(1, bSystem s0), (2, .arr (List.map AV.bool in_6))] (ai (lenT (d := 15) I v1) trivial) ?_
 refine seqQ_norm ?_
 rcases itesome h with ⟨hb_8, h⟩ | ⟨hb_8, h⟩
 ·refine cT ((decide (i_7 < (v1.length : Int)))) hb_8 ?_
  refine Wp.skipN (by kernel_rfl) ?_
  refine seqQ_norm ?_
  refine sN ?_
  refine Wp.blockN (i := 1) (by kernel_rfl) ?_
  refine sN ?_
  refine sN ?_
  obtain ⟨v_9, hj_10, h⟩ := bsome h
  refine Wp.into (x := .normal) (mkS [(1, sI v1), (2, .ra 1 0), (5, .rs 2), (6, I i_7), (43, .bool v_9)] [(1, bSystem s0), (2, .arr (List.map AV.bool in_6))]) ?_ ?_
  ·replace h := hj_10
   obtain ⟨e_7_2, hi_7_2, h⟩ := bsome h
   obtain ⟨r_7_7, hr_7_7, h⟩ := bsome h
   rcases itesome h with ⟨hb_7_0, h⟩ | ⟨hb_7_0, h⟩
   ·rcases itesome h with ⟨hb_7_1, h⟩ | ⟨hb_7_1, h⟩
    ·obtain ⟨e_7_15, hi_7_15, h⟩ := bsome h
     obtain ⟨e_7_20, hi_7_20, h⟩ := bsome h
     refine rg hc ah3_0 [oN, oN, some (.el (I e_7_2)), oN, oN, oN, oN, oc (.bool r_7_7), oN, oN, oN, oN, oN, oN, oN, some (.el (I e_7_15)), oN, oN, oN, oN, some (.el (I e_7_20)), oN, oN, oT, oF] [(1, sI v1), (2, .ra 1 0), (5, .rs 2), (6, I i_7), (43, .bool (decide (e_7_15 ≤ e_7_20)))] [(1, bSystem s0), (2, .arr (List.map AV.bool in_6))] (ai (ix hi_7_2) (ai (spec_l1In_s _ _ hr_7_7) (ai bod_57 (ai (oi (.bool r_7_7)) (ar 3 (nF hb_7_0) (ar 3 hb_7_1 (ai (ix hi_7_15) (ar 5 hb_7_1 (ai (ix hi_7_20) (ar 2 hb_7_1 (ai (nF hb_7_0) (ai hb_7_1 (ai (nF hb_7_0) trivial))))))))))))) ?_
     obtain rfl := Option.some.inj h
     exact Into.mk
    ·refine rg hc ah3_0 [oN, oN, some (.el (I e_7_2)), oN, oN, oN, oN, oc (.bool r_7_7), oN, oN, oN, oN, oN, o_, o_, o_, o_, o_, o_, o_, o_, o_, o_, oF, oF] [(1, sI v1), (2, .ra 1 0), (5, .rs 2), (6, I i_7), (43, .bool false)] [(1, bSystem s0), (2, .arr (List.map AV.bool in_6))] (ai (ix hi_7_2) (ai (spec_l1In_s _ _ hr_7_7) (ai bod_57 (ai (oi (.bool r_7_7)) (ar 3 (nF hb_7_0) (ar 10 (neT hb_7_1) (ai (nF hb_7_0) (ai hb_7_1 (ai (nF hb_7_0) trivial))))))))) ?_
     obtain rfl := Option.some.inj h
     exact Into.mk
   ·refine rg hc ah3_0 [oN, oN, some (.el (I e_7_2)), oN, oN, oN, oN, oc (.bool r_7_7), oN, oN, o_, o_, o_, o_, o_, o_, o_, o_, o_, o_, o_, o_, o_, o_, oT] [(1, sI v1), (2, .ra 1 0), (5, .rs 2), (6, I i_7), (43, .bool true)] [(1, bSystem s0), (2, .arr (List.map AV.bool in_6))] (ai (ix hi_7_2) (ai (spec_l1In_s _ _ hr_7_7) (ai bod_57 (ai (oi (.bool r_7_7)) (ar 4 (neF (nT hb_7_0)) (ai (nT hb_7_0) trivial)))))) ?_
    obtain rfl := Option.some.inj h
    exact Into.mk
  ·clear hj_10
   refine seqQ_norm ?_
   rcases itesome h with ⟨hb_11, h⟩ | ⟨hb_11, h⟩
   ·refine cT v_9 hb_11 ?_
    refine sN ?_
    refine rg0 hc 1 [(4, .bool false)] [] ?_
    refine seqQ_norm ?_
    refine Wp.retN (by kernel_rfl) ?_
    refine seqQ_ret ?_
    refine blockQ_ret ?_
    refine seqQ_ret ?_
    refine loopQ_ret ?_
    obtain rfl := Option.some.inj h
    exact RetE.ret (fl := [true]) (by kernel_rfl)
   ·refine cF v_9 hb_11 ?_
    refine Wp.skipN (by kernel_rfl) ?_
    refine seqQ_norm ?_
    obtain ⟨e_9_3, hi_9_3, h⟩ := bsome h
    obtain ⟨e_9_5, hi_9_5, h⟩ := bsome h
    refine rg hc none [oN, oN, oN, some (.el (I e_9_3)), oN, oN, some (.eqv (.mk 0 true) ⟨[], [(2, some (.arr (List.map AV.bool (List.set in_6 (Int.toNat e_9_3) true))))], []⟩)] [(1, sI v1), (2, .ra 1 0), (5, .rs 2), (6, I i_7)] [(1, bSystem s0), (2, .arr (List.map AV.bool (List.set in_6 (Int.toNat e_9_3) true)))] (ai (ix hi_9_3) (ai (idx_own (enc := AV.bool) hi_9_5) (ai (congrArg (fun z => (⟨[], [(2, some (.arr z))], []⟩ : Wr)) (set_row (enc := AV.bool) (i := Int.toNat e_9_3) (l := in_6) (v := true) (x := AV.bool true) (eq_B true))) (ai (own_set (enc := AV.bool) (sz := 1) sz_B hi_9_5) trivial)))) ?_
    refine blockQ_norm ?_
    refine seqQ_norm ?_
    refine rg0 hc 3 [(1, sI v1), (2, .ra 1 0), (5, .rs 2), (6, I (wr (i_7 + 1)))] [(1, bSystem s0), (2, .arr (List.map AV.bool (List.set in_6 (Int.toNat e_9_3) true)))] ?_
    refine loopQ_norm ?_
    exact (spec_IsView_l0_ih _ _ h c hc)
 ·refine cF ((decide (i_7 < (v1.length : Int)))) hb_8 ?_
  refine Wp.exitN (i := 0) (by kernel_rfl) ?_
  refine seqQ_exit ?_
  refine loopQ_exit ?_
  obtain rfl := Option.some.inj h
  exact Into.view (fun a w hv => SRx.renL [] hv (by kernel_rfl) (by kernel_rfl) (by kernel_rfl))
def spec_IsView (p : GSystem × (List Int)) : Option (Bool) :=
 match p with
 | (s0, v1) =>
  (spec_IsSystem s0) >>= fun r_1_1 =>
  if r_1_1 = true then
   (chk (0 ≤ s0.fSize ∧ (Int.toNat s0.fSize) * 1 ≤ 140737488355328)) >>= fun _ =>
   (spec_IsView_l0 (s0, v1, (List.replicate (Int.toNat s0.fSize) false), 0)) >>= fun fl => match fl with
   | .inl in_12 =>
    (spec_l1View (s0, in_12)) >>= fun r_10_2 =>
    some r_10_2
   | .inr r =>
    some r
  else
   some false
def M_spec_IsView (p : GSystem × (List Int)) (r : Bool) : Prop :=
 match p with
 | (s0, v1) => FnSound Try.prog 44 [aSystem s0, sI v1] (.bool r) []
theorem spec_IsView_s : ∀ p r, spec_IsView p = some r → M_spec_IsView p r := by
 rintro ⟨s0, v1⟩ r h
 unfold spec_IsView at h
 show FnSound Try.prog 44 [aSystem s0, sI v1] (.bool r) []
 refine FnSound.body0 tiok (fn := Try.f44) (code := B44) (by kernel_rfl) (by kernel_rfl) (by kernel_rfl) (by kernel_rfl) (nt := 53) (by kernel_rfl) (by kernel_rfl) (T := [(0, aSystem s0), (1, sI v1)]) (O := []) (by kernel_rfl) (by kernel_rfl) (fun c hc => ?_)
 refine sN ?_
 refine rg hc none [some (.new 1), oN] [(1, sI v1), (2, .ra 1 0)] [(1, bSystem s0)] trivial ?_
 refine seqQ_norm ?_
 refine sN ?_
 refine sN ?_
 obtain ⟨r_1_1, hr_1_1, h⟩ := bsome h
 refine rg hc none [oN, oc (.bool r_1_1), oN] [(1, sI v1), (2, .ra 1 0), (9, .bool (!r_1_1))] [(1, bSystem s0)] (ai (spec_IsSystem_s _ _ hr_1_1) (ai bod_80 (ai (oi (.bool r_1_1)) trivial))) ?_
 refine seqQ_norm ?_
 rcases itesome h with ⟨hb_1, h⟩ | ⟨hb_1, h⟩
 ·refine cF (!r_1_1) (nF hb_1) ?_
  refine Wp.skipN (by kernel_rfl) ?_
  refine seqQ_norm ?_
  refine sN ?_
  obtain ⟨_, hk_3_2, h⟩ := bsome h
  refine rg hc none [oN, oN, some (.eqv (.mk 2 true) ⟨[(12, .rs 2)], [(2, some (.arr (List.map AV.bool (List.replicate (Int.toNat s0.fSize) false))))], [2]⟩), oN] [(1, sI v1), (2, .ra 1 0), (5, .rs 2)] [(1, bSystem s0), (2, .arr (List.map AV.bool (List.replicate (Int.toNat s0.fSize) false)))] (ai (congrArg (fun z => (⟨[(12, .rs 2)], [(2, some (.arr z))], [2]⟩ : Wr)) (rep_row (enc := AV.bool) (n := Int.toNat s0.fSize) (x := AV.bool false) (eq_B false))) (ai (And.intro (Eq.refl s0.fSize) (chk_of hk_3_2)) trivial)) ?_
  refine seqQ_norm ?_
  refine sN ?_
  refine sN ?_
  refine rg0 hc 1 [(1, sI v1), (2, .ra 1 0), (5, .rs 2), (6, I 0)] [(1, bSystem s0), (2, .arr (List.map AV.bool (List.replicate (Int.toNat s0.fSize) false)))] ?_
  refine seqQ_norm ?_
  refine Wp.blockN (i := 0) (by kernel_rfl) ?_
  obtain ⟨fl, hl_13, h⟩ := bsome h
  have hL := spec_IsView_l0_s _ _ hl_13 c hc
  refine Wp.loopN (by kernel_rfl) ?_
  rcases fl with in_12 | r
  ·refine WpL.into (e := (.exit 0)) (mkS [(2, .ra 1 0), (5, .rs 2)] [(1, bSystem s0), (2, .arr (List.map AV.bool in_12))]) hL ?_
   refine blockQ_hit ?_
   refine seqQ_norm ?_
   refine sN ?_
   obtain ⟨r_10_2, hr_10_2, h⟩ := bsome h
   refine rg hc none [oN, oN, oc (.bool r_10_2), oN] [(4, .bool r_10_2)] [] (ai (FnSound.args (A1 := [aSystem s0, .sl (shares (List.map AV.bool in_12))]) (A2 := [aSystem s0, sB in_12]) (by simp only [sI, sB, aSystem, aTerm, hSystem, hTerm, List.map_nil, sh_B]) (spec_l1View_s _ _ hr_10_2)) (ai bod_81 (ai (Or.inr rfl : ([2] : List Nat) = [] ∨ noSh (.bool r_10_2) = true) trivial))) ?_
   refine seqQ_norm ?_
   refine Wp.retN (by kernel_rfl) ?_
   obtain rfl := Option.some.inj h
   exact RetQ.ret (fl := [true]) (by kernel_rfl)
  ·refine WpL.mono hL ?_
   rintro _ _ ⟨rfl, hfin⟩
   refine blockQ_ret ?_
   refine seqQ_ret ?_
   obtain rfl := Option.some.inj h
   exact ⟨.inl rfl, hfin⟩
 ·refine cT (!r_1_1) (nT hb_1) ?_
  refine sN ?_
  refine rg0 hc 1 [(4, .bool false)] [] ?_
  refine seqQ_norm ?_
  refine Wp.retN (by kernel_rfl) ?_
  refine seqQ_ret ?_
  obtain rfl := Option.some.inj h
  exact RetQ.ret (fl := [true]) (by kernel_rfl)
def spec_l2Arrow (c0 : Int) : Option (Bool) :=
  (
   (spec_l1In (c0, 3, 18)) >>= fun r_1_1 =>
   if r_1_1 = true then
    some (true)
   else
    some ((c0 == 35))
  ) >>= fun v_1 =>
  some v_1
def M_spec_l2Arrow (c0 : Int) (r : Bool) : Prop :=
 FnSound Try.prog 137 [I c0] (.bool r) []
theorem spec_l2Arrow_s : ∀ p r, spec_l2Arrow p = some r → M_spec_l2Arrow p r := by
 rintro c0 r h
 unfold spec_l2Arrow at h
 show FnSound Try.prog 137 [I c0] (.bool r) []
 refine FnSound.body0 tiok (fn := Try.f137) (code := B137) (by kernel_rfl) (by kernel_rfl) (by kernel_rfl) (by kernel_rfl) (nt := 9) (by kernel_rfl) (by kernel_rfl) (T := [(0, I c0)]) (O := []) (by kernel_rfl) (by kernel_rfl) (fun c hc => ?_)
 refine sN ?_
 refine rg0 hc 1 [(0, I c0)] [] ?_
 refine seqQ_norm ?_
 refine sN ?_
 obtain ⟨v_1, hj_2, h⟩ := bsome h
 refine Wp.into (x := .normal) (mkS [(2, .bool v_1)] []) ?_ ?_
 ·replace h := hj_2
  obtain ⟨r_1_1, hr_1_1, h⟩ := bsome h
  rcases itesome h with ⟨hb_1_0, h⟩ | ⟨hb_1_0, h⟩
  ·refine rg hc none [oN, oc (.bool r_1_1), oN, o_, o_, oT, oN] [(2, .bool true)] [] (ai (spec_l1In_s _ _ hr_1_1) (ai bod_57 (ai (oi (.bool r_1_1)) (ar 2 (neF hb_1_0) (ai hb_1_0 trivial))))) ?_
   obtain rfl := Option.some.inj h
   exact Into.mk
  ·refine rg hc none [oN, oc (.bool r_1_1), oN, oN, oN, oF, oN] [(2, .bool (c0 == 35))] [] (ai (spec_l1In_s _ _ hr_1_1) (ai bod_57 (ai (oi (.bool r_1_1)) (ar 3 hb_1_0 trivial)))) ?_
   obtain rfl := Option.some.inj h
   exact Into.mk
 ·clear hj_2
  refine seqQ_norm ?_
  refine Wp.retN (by kernel_rfl) ?_
  obtain rfl := Option.some.inj h
  exact RetQ.ret (fl := [true]) (by kernel_rfl)
def spec_l2Box (c0 : Int) : Option (Bool) :=
  (
   (spec_l1In (c0, 19, 34)) >>= fun r_1_1 =>
   if r_1_1 = true then
    some (true)
   else
    some ((c0 == 36))
  ) >>= fun v_1 =>
  some v_1
def M_spec_l2Box (c0 : Int) (r : Bool) : Prop :=
 FnSound Try.prog 73 [I c0] (.bool r) []
theorem spec_l2Box_s : ∀ p r, spec_l2Box p = some r → M_spec_l2Box p r := by
 rintro c0 r h
 unfold spec_l2Box at h
 show FnSound Try.prog 73 [I c0] (.bool r) []
 refine FnSound.body0 tiok (fn := Try.f73) (code := B73) (by kernel_rfl) (by kernel_rfl) (by kernel_rfl) (by kernel_rfl) (nt := 9) (by kernel_rfl) (by kernel_rfl) (T := [(0, I c0)]) (O := []) (by kernel_rfl) (by kernel_rfl) (fun c hc => ?_)
 refine sN ?_
 refine rg0 hc 1 [(0, I c0)] [] ?_
 refine seqQ_norm ?_
 refine sN ?_
 obtain ⟨v_1, hj_2, h⟩ := bsome h
 refine Wp.into (x := .normal) (mkS [(2, .bool v_1)] []) ?_ ?_
 ·replace h := hj_2
  obtain ⟨r_1_1, hr_1_1, h⟩ := bsome h
  rcases itesome h with ⟨hb_1_0, h⟩ | ⟨hb_1_0, h⟩
  ·refine rg hc none [oN, oc (.bool r_1_1), oN, o_, o_, oT, oN] [(2, .bool true)] [] (ai (spec_l1In_s _ _ hr_1_1) (ai bod_57 (ai (oi (.bool r_1_1)) (ar 2 (neF hb_1_0) (ai hb_1_0 trivial))))) ?_
   obtain rfl := Option.some.inj h
   exact Into.mk
  ·refine rg hc none [oN, oc (.bool r_1_1), oN, oN, oN, oF, oN] [(2, .bool (c0 == 36))] [] (ai (spec_l1In_s _ _ hr_1_1) (ai bod_57 (ai (oi (.bool r_1_1)) (ar 3 hb_1_0 trivial)))) ?_
   obtain rfl := Option.some.inj h
   exact Into.mk
 ·clear hj_2
  refine seqQ_norm ?_
  refine Wp.retN (by kernel_rfl) ?_
  obtain rfl := Option.some.inj h
  exact RetQ.ret (fl := [true]) (by kernel_rfl)
def spec_l2Kids (c0 : Int) : Option (Int) :=
  if (c0 == 0) = true then
   some 0
  else
   (
    if (c0 == 1) = true then
     some (true)
    else
     if (c0 == 2) = true then
      some (true)
     else
      (spec_l2Arrow c0) >>= fun r_3_8 =>
      some (r_3_8)
   ) >>= fun v_2 =>
   if v_2 = true then
    some 2
   else
    (spec_l2Box c0) >>= fun r_5_1 =>
    if r_5_1 = true then
     some 1
    else
     some (-1)
def M_spec_l2Kids (c0 : Int) (r : Int) : Prop :=
 FnSound Try.prog 138 [I c0] (I r) []
theorem spec_l2Kids_s : ∀ p r, spec_l2Kids p = some r → M_spec_l2Kids p r := by
 rintro c0 r h
 unfold spec_l2Kids at h
 show FnSound Try.prog 138 [I c0] (I r) []
 refine FnSound.body0 tiok (fn := Try.f138) (code := B138) (by kernel_rfl) (by kernel_rfl) (by kernel_rfl) (by kernel_rfl) (nt := 20) (by kernel_rfl) (by kernel_rfl) (T := [(0, I c0)]) (O := []) (by kernel_rfl) (by kernel_rfl) (fun c hc => ?_)
 refine sN ?_
 refine rg0 hc 1 [(0, I c0)] [] ?_
 refine seqQ_norm ?_
 refine sN ?_
 refine Wp.blockN (i := 0) (by kernel_rfl) ?_
 refine sN ?_
 refine rg0 hc 3 [(0, I c0), (3, .bool (c0 == 0))] [] ?_
 refine seqQ_norm ?_
 rcases itesome h with ⟨hb_1, h⟩ | ⟨hb_1, h⟩
 ·refine cT ((c0 == 0)) hb_1 ?_
  refine sN ?_
  refine rg0 hc 1 [(2, I 0)] [] ?_
  refine seqQ_norm ?_
  refine Wp.retN (by kernel_rfl) ?_
  refine blockQ_ret ?_
  refine seqQ_ret ?_
  obtain rfl := Option.some.inj h
  exact RetQ.ret (fl := [true]) (by kernel_rfl)
 ·refine cF ((c0 == 0)) hb_1 ?_
  refine sN ?_
  obtain ⟨v_2, hj_3, h⟩ := bsome h
  refine Wp.into (x := .normal) (mkS [(0, I c0), (6, .bool v_2)] []) ?_ ?_
  ·replace h := hj_3
   rcases itesome h with ⟨hb_3_0, h⟩ | ⟨hb_3_0, h⟩
   ·refine rg hc none [oN, oN, oN, o_, o_, oT, oN, o_, o_, oT, oN] [(0, I c0), (6, .bool true)] [] (ar 2 (neF hb_3_0) (ai hb_3_0 (ar 2 nf (ai tt trivial)))) ?_
    obtain rfl := Option.some.inj h
    exact Into.mk
   ·rcases itesome h with ⟨hb_3_1, h⟩ | ⟨hb_3_1, h⟩
    ·refine rg hc none [oN, oN, oN, oN, oN, oF, oN, o_, o_, oT, oN] [(0, I c0), (6, .bool true)] [] (ar 3 hb_3_0 (ar 2 (neF hb_3_1) (ai hb_3_1 trivial))) ?_
     obtain rfl := Option.some.inj h
     exact Into.mk
    ·obtain ⟨r_3_8, hr_3_8, h⟩ := bsome h
     refine rg hc none [oN, oN, oN, oN, oN, oF, oN, oN, oc (.bool r_3_8), oF, oN] [(0, I c0), (6, .bool r_3_8)] [] (ar 3 hb_3_0 (ar 2 hb_3_1 (ai (spec_l2Arrow_s _ _ hr_3_8) (ai bod_137 (ai (oi (.bool r_3_8)) (ai hb_3_1 trivial)))))) ?_
     obtain rfl := Option.some.inj h
     exact Into.mk
  ·clear hj_3
   refine seqQ_norm ?_
   rcases itesome h with ⟨hb_4, h⟩ | ⟨hb_4, h⟩
   ·refine cT v_2 hb_4 ?_
    refine sN ?_
    refine rg0 hc 1 [(2, I 2)] [] ?_
    refine seqQ_norm ?_
    refine Wp.retN (by kernel_rfl) ?_
    refine blockQ_ret ?_
    refine seqQ_ret ?_
    obtain rfl := Option.some.inj h
    exact RetQ.ret (fl := [true]) (by kernel_rfl)
   ·refine cF v_2 hb_4 ?_
    refine sN ?_
    obtain ⟨r_5_1, hr_5_1, h⟩ := bsome h
    refine rg hc none [oN, oc (.bool r_5_1), oN] [(17, .bool r_5_1)] [] (ai (spec_l2Box_s _ _ hr_5_1) (ai bod_73 (ai (oi (.bool r_5_1)) trivial))) ?_
    refine seqQ_norm ?_
    rcases itesome h with ⟨hb_5, h⟩ | ⟨hb_5, h⟩
    ·refine cT r_5_1 hb_5 ?_
     refine sN ?_
     refine rg0 hc 1 [(2, I 1)] [] ?_
     refine seqQ_norm ?_
     refine Wp.retN (by kernel_rfl) ?_
     refine blockQ_ret ?_
     refine seqQ_ret ?_
     obtain rfl := Option.some.inj h
     exact RetQ.ret (fl := [true]) (by kernel_rfl)
    ·refine cF r_5_1 hb_5 ?_
     refine Wp.skipN (by kernel_rfl) ?_
     refine blockQ_norm ?_
     refine seqQ_norm ?_
     refine sN ?_
     refine rg0 hc 1 [(2, I (-1))] [] ?_
     refine seqQ_norm ?_
     refine Wp.retN (by kernel_rfl) ?_
     obtain rfl := Option.some.inj h
     exact RetQ.ret (fl := [true]) (by kernel_rfl)
def spec_l2End_F1 (c : Ctx) : (Unit) ⊕ (Int) → Exit → AState → Prop
 | .inl _ => Into c (.exit 0) (mkS [] [])
 | .inr r => RetE TIx Try.f108 [] (I r)
def spec_l2End_l0 (p : (List Int) × Int × Int) : Option ((Unit) ⊕ (Int)) :=
 match p with
 | (ty0, missing_4, i_5) =>
  if (decide (i_5 < (ty0.length : Int))) = true then
   (idx ty0 i_5) >>= fun e_5_2 =>
   (spec_l2Kids e_5_2) >>= fun r_5_4 =>
   if (decide (r_5_4 < 0)) = true then
    some (.inr (-1))
   else
    if ((wr ((wr (missing_4 - 1)) + r_5_4)) == 0) = true then
     some (.inr (wr (i_5 + 1)))
    else
     spec_l2End_l0 (ty0, (wr ((wr (missing_4 - 1)) + r_5_4)), (wr (i_5 + 1)))
  else
   some (.inl ())
 partial_fixpoint
def M_spec_l2End_l0 (p : (List Int) × Int × Int) (fl : (Unit) ⊕ (Int)) : Prop :=
 match p with
 | (ty0, missing_4, i_5) => ∀ c : Ctx, c.nt = 30 → WpL Try.prog c (cl (cl (cr (cl (cr (cr B108)))))) (spec_l2End_F1 c fl) (mkS [(0, sI ty0), (5, I missing_4), (6, I i_5)] [])
theorem spec_l2End_l0_s : ∀ p r, spec_l2End_l0 p = some r → M_spec_l2End_l0 p r := by
 refine spec_l2End_l0.partial_correctness M_spec_l2End_l0 ?_
 rintro spec_l2End_l0_f spec_l2End_l0_ih ⟨ty0, missing_4, i_5⟩ r h
 intro c hc
 show WpL Try.prog c (cl (cl (cr (cl (cr (cr B108)))))) (spec_l2End_F1 c r) (mkS [(0, sI ty0), (5, I missing_4), (6, I i_5)] [])
 refine WpL.step ?_
 refine sN ?_
 refine sN ?_
 refine rg hc none [oN, oN, some (.eqv (.no) ⟨[(11, I (ty0.length : Int))], [], []⟩), oN] [(0, sI ty0), (5, I missing_4), (6, I i_5), (12, .bool (decide (i_5 < (ty0.length : Int))))] [] (ai (lenT (d := 11) I ty0) trivial) ?_
 refine seqQ_norm ?_
 rcases itesome h with ⟨hb_6, h⟩ | ⟨hb_6, h⟩
 ·refine cT ((decide (i_5 < (ty0.length : Int)))) hb_6 ?_
  refine Wp.skipN (by kernel_rfl) ?_
  refine seqQ_norm ?_
  refine sN ?_
  refine Wp.blockN (i := 1) (by kernel_rfl) ?_
  refine sN ?_
  obtain ⟨e_5_2, hi_5_2, h⟩ := bsome h
  obtain ⟨r_5_4, hr_5_4, h⟩ := bsome h
  refine rg hc none [oN, oN, some (.el (I e_5_2)), oN, oc (I r_5_4), oN] [(0, sI ty0), (5, I missing_4), (6, I i_5), (7, I r_5_4)] [] (ai (ix hi_5_2) (ai (spec_l2Kids_s _ _ hr_5_4) (ai bod_138 (ai (oi (I r_5_4)) trivial)))) ?_
  refine seqQ_norm ?_
  refine sN ?_
  refine sN ?_
  refine rg0 hc 2 [(0, sI ty0), (5, I missing_4), (6, I i_5), (7, I r_5_4), (21, .bool (decide (r_5_4 < 0)))] [] ?_
  refine seqQ_norm ?_
  rcases itesome h with ⟨hb_7, h⟩ | ⟨hb_7, h⟩
  ·refine cT ((decide (r_5_4 < 0))) hb_7 ?_
   refine sN ?_
   refine rg0 hc 1 [(4, I (-1))] [] ?_
   refine seqQ_norm ?_
   refine Wp.retN (by kernel_rfl) ?_
   refine seqQ_ret ?_
   refine blockQ_ret ?_
   refine seqQ_ret ?_
   refine loopQ_ret ?_
   obtain rfl := Option.some.inj h
   exact RetE.ret (fl := [true]) (by kernel_rfl)
  ·refine cF ((decide (r_5_4 < 0))) hb_7 ?_
   refine Wp.skipN (by kernel_rfl) ?_
   refine seqQ_norm ?_
   refine sN ?_
   refine rg0 hc 5 [(0, sI ty0), (5, I (wr ((wr (missing_4 - 1)) + r_5_4))), (6, I i_5)] [] ?_
   refine seqQ_norm ?_
   refine sN ?_
   refine rg0 hc 2 [(0, sI ty0), (5, I (wr ((wr (missing_4 - 1)) + r_5_4))), (6, I i_5), (27, .bool ((wr ((wr (missing_4 - 1)) + r_5_4)) == 0))] [] ?_
   refine seqQ_norm ?_
   rcases itesome h with ⟨hb_8, h⟩ | ⟨hb_8, h⟩
   ·refine cT (((wr ((wr (missing_4 - 1)) + r_5_4)) == 0)) hb_8 ?_
    refine sN ?_
    refine rg0 hc 3 [(4, I (wr (i_5 + 1)))] [] ?_
    refine seqQ_norm ?_
    refine Wp.retN (by kernel_rfl) ?_
    refine blockQ_ret ?_
    refine seqQ_ret ?_
    refine loopQ_ret ?_
    obtain rfl := Option.some.inj h
    exact RetE.ret (fl := [true]) (by kernel_rfl)
   ·refine cF (((wr ((wr (missing_4 - 1)) + r_5_4)) == 0)) hb_8 ?_
    refine Wp.skipN (by kernel_rfl) ?_
    refine blockQ_norm ?_
    refine seqQ_norm ?_
    refine rg0 hc 3 [(0, sI ty0), (5, I (wr ((wr (missing_4 - 1)) + r_5_4))), (6, I (wr (i_5 + 1)))] [] ?_
    refine loopQ_norm ?_
    exact (spec_l2End_l0_ih _ _ h c hc)
 ·refine cF ((decide (i_5 < (ty0.length : Int)))) hb_6 ?_
  refine Wp.exitN (i := 0) (by kernel_rfl) ?_
  refine seqQ_exit ?_
  refine loopQ_exit ?_
  obtain rfl := Option.some.inj h
  exact Into.view (fun a w hv => SRx.renL [] hv (by kernel_rfl) (by kernel_rfl) (by kernel_rfl))
def spec_l2End (p : (List Int) × Int) : Option (Int) :=
 match p with
 | (ty0, at1) =>
  (spec_l2End_l0 (ty0, 1, at1)) >>= fun fl => match fl with
  | .inl () =>
   some (-1)
  | .inr r =>
   some r
def M_spec_l2End (p : (List Int) × Int) (r : Int) : Prop :=
 match p with
 | (ty0, at1) => FnSound Try.prog 108 [sI ty0, I at1] (I r) []
theorem spec_l2End_s : ∀ p r, spec_l2End p = some r → M_spec_l2End p r := by
 rintro ⟨ty0, at1⟩ r h
 unfold spec_l2End at h
 show FnSound Try.prog 108 [sI ty0, I at1] (I r) []
 refine FnSound.body0 tiok (fn := Try.f108) (code := B108) (by kernel_rfl) (by kernel_rfl) (by kernel_rfl) (by kernel_rfl) (nt := 30) (by kernel_rfl) (by kernel_rfl) (T := [(0, sI ty0), (1, I at1)]) (O := []) (by kernel_rfl) (by kernel_rfl) (fun c hc => ?_)
 refine sN ?_
 refine rg0 hc 1 [(0, sI ty0), (1, I at1)] [] ?_
 refine seqQ_norm ?_
 refine sN ?_
 refine rg0 hc 1 [(0, sI ty0), (1, I at1), (5, I 1)] [] ?_
 refine seqQ_norm ?_
 refine sN ?_
 refine sN ?_
 refine rg0 hc 2 [(0, sI ty0), (5, I 1), (6, I at1)] [] ?_
 refine seqQ_norm ?_
 refine Wp.blockN (i := 0) (by kernel_rfl) ?_
 obtain ⟨fl, hl_9, h⟩ := bsome h
 have hL := spec_l2End_l0_s _ _ hl_9 c hc
 refine Wp.loopN (by kernel_rfl) ?_
 rcases fl with ⟨⟩ | r
 ·refine WpL.into (e := (.exit 0)) (mkS [] []) hL ?_
  refine blockQ_hit ?_
  refine seqQ_norm ?_
  refine sN ?_
  refine rg0 hc 1 [(4, I (-1))] [] ?_
  refine seqQ_norm ?_
  refine Wp.retN (by kernel_rfl) ?_
  obtain rfl := Option.some.inj h
  exact RetQ.ret (fl := [true]) (by kernel_rfl)
 ·refine WpL.mono hL ?_
  rintro _ _ ⟨rfl, hfin⟩
  refine blockQ_ret ?_
  refine seqQ_ret ?_
  obtain rfl := Option.some.inj h
  exact ⟨.inl rfl, hfin⟩
def spec_l2Type (ty0 : (List Int)) : Option (Bool) :=
  (
   if (decide ((ty0.length : Int) ≤ 40)) = true then
    (spec_l2End (ty0, 0)) >>= fun r_1_5 =>
    if (r_1_5 == (ty0.length : Int)) = true then
     some ((decide ((ty0.length : Int) > 0)))
    else
     some (false)
   else
    some (false)
  ) >>= fun v_1 =>
  some v_1
def M_spec_l2Type (ty0 : (List Int)) (r : Bool) : Prop :=
 FnSound Try.prog 135 [sI ty0] (.bool r) []
theorem spec_l2Type_s : ∀ p r, spec_l2Type p = some r → M_spec_l2Type p r := by
 rintro ty0 r h
 unfold spec_l2Type at h
 show FnSound Try.prog 135 [sI ty0] (.bool r) []
 refine FnSound.body0 tiok (fn := Try.f135) (code := B135) (by kernel_rfl) (by kernel_rfl) (by kernel_rfl) (by kernel_rfl) (nt := 18) (by kernel_rfl) (by kernel_rfl) (T := [(0, sI ty0)]) (O := []) (by kernel_rfl) (by kernel_rfl) (fun c hc => ?_)
 refine sN ?_
 refine rg0 hc 1 [(0, sI ty0)] [] ?_
 refine seqQ_norm ?_
 refine sN ?_
 obtain ⟨v_1, hj_2, h⟩ := bsome h
 refine Wp.into (x := .normal) (mkS [(2, .bool v_1)] []) ?_ ?_
 ·replace h := hj_2
  rcases itesome h with ⟨hb_1_0, h⟩ | ⟨hb_1_0, h⟩
  ·obtain ⟨r_1_5, hr_1_5, h⟩ := bsome h
   rcases itesome h with ⟨hb_1_1, h⟩ | ⟨hb_1_1, h⟩
   ·refine rg hc none [oN, some (.eqv (.no) ⟨[(4, I (ty0.length : Int))], [], []⟩), oN, oN, oN, oc (I r_1_5), oN, some (.eqv (.no) ⟨[(10, I (ty0.length : Int))], [], []⟩), oN, oT, oN, oN, some (.eqv (.no) ⟨[(15, I (ty0.length : Int))], [], []⟩), oN, oT, oN] [(2, .bool (decide ((ty0.length : Int) > 0)))] [] (ai (lenT (d := 4) I ty0) (ar 2 hb_1_0 (ai (spec_l2End_s _ _ hr_1_5) (ai bod_108 (ai (oi (I r_1_5)) (ar 2 hb_1_0 (ai (lenT (d := 10) I ty0) (ar 2 hb_1_0 (ar 2 hb_1_1 (ai (lenT (d := 15) I ty0) (ar 2 hb_1_1 trivial))))))))))) ?_
    obtain rfl := Option.some.inj h
    exact Into.mk
   ·refine rg hc none [oN, some (.eqv (.no) ⟨[(4, I (ty0.length : Int))], [], []⟩), oN, oN, oN, oc (I r_1_5), oN, some (.eqv (.no) ⟨[(10, I (ty0.length : Int))], [], []⟩), oN, oT, oN, o_, o_, o_, oF, oN] [(2, .bool false)] [] (ai (lenT (d := 4) I ty0) (ar 2 hb_1_0 (ai (spec_l2End_s _ _ hr_1_5) (ai bod_108 (ai (oi (I r_1_5)) (ar 2 hb_1_0 (ai (lenT (d := 10) I ty0) (ar 2 hb_1_0 (ar 3 (neT hb_1_1) (ai hb_1_1 trivial)))))))))) ?_
    obtain rfl := Option.some.inj h
    exact Into.mk
  ·refine rg hc none [oN, some (.eqv (.no) ⟨[(4, I (ty0.length : Int))], [], []⟩), oN, oN, o_, o_, o_, o_, o_, oF, oN, o_, o_, o_, oF, oN] [(2, .bool false)] [] (ai (lenT (d := 4) I ty0) (ar 5 (neT hb_1_0) (ai hb_1_0 (ar 3 (neT (rfl : false = false)) (ai (rfl : false = false) trivial))))) ?_
   obtain rfl := Option.some.inj h
   exact Into.mk
 ·clear hj_2
  refine seqQ_norm ?_
  refine Wp.retN (by kernel_rfl) ?_
  obtain rfl := Option.some.inj h
  exact RetQ.ret (fl := [true]) (by kernel_rfl)
def spec_l2Grade (c0 : Int) : Option (Int) :=
  if (decide (c0 ≥ 35)) = true then
   some (-1)
  else
   if (decide (c0 ≥ 19)) = true then
    some (wr (c0 - 19))
   else
    some (wr (c0 - 3))
def M_spec_l2Grade (c0 : Int) (r : Int) : Prop :=
 FnSound Try.prog 74 [I c0] (I r) []
theorem spec_l2Grade_s : ∀ p r, spec_l2Grade p = some r → M_spec_l2Grade p r := by
 rintro c0 r h
 unfold spec_l2Grade at h
 show FnSound Try.prog 74 [I c0] (I r) []
 refine FnSound.body0 tiok (fn := Try.f74) (code := B74) (by kernel_rfl) (by kernel_rfl) (by kernel_rfl) (by kernel_rfl) (nt := 13) (by kernel_rfl) (by kernel_rfl) (T := [(0, I c0)]) (O := []) (by kernel_rfl) (by kernel_rfl) (fun c hc => ?_)
 refine sN ?_
 refine rg0 hc 1 [(0, I c0)] [] ?_
 refine seqQ_norm ?_
 refine sN ?_
 refine Wp.blockN (i := 0) (by kernel_rfl) ?_
 refine sN ?_
 refine rg0 hc 3 [(0, I c0), (3, .bool (decide (c0 ≥ 35)))] [] ?_
 refine seqQ_norm ?_
 rcases itesome h with ⟨hb_1, h⟩ | ⟨hb_1, h⟩
 ·refine cT ((decide (c0 ≥ 35))) hb_1 ?_
  refine sN ?_
  refine rg0 hc 1 [(2, I (-1))] [] ?_
  refine seqQ_norm ?_
  refine Wp.retN (by kernel_rfl) ?_
  refine blockQ_ret ?_
  refine seqQ_ret ?_
  obtain rfl := Option.some.inj h
  exact RetQ.ret (fl := [true]) (by kernel_rfl)
 ·refine cF ((decide (c0 ≥ 35))) hb_1 ?_
  refine sN ?_
  refine rg0 hc 3 [(0, I c0), (6, .bool (decide (c0 ≥ 19)))] [] ?_
  refine seqQ_norm ?_
  rcases itesome h with ⟨hb_2, h⟩ | ⟨hb_2, h⟩
  ·refine cT ((decide (c0 ≥ 19))) hb_2 ?_
   refine sN ?_
   refine rg0 hc 3 [(2, I (wr (c0 - 19)))] [] ?_
   refine seqQ_norm ?_
   refine Wp.retN (by kernel_rfl) ?_
   refine blockQ_ret ?_
   refine seqQ_ret ?_
   obtain rfl := Option.some.inj h
   exact RetQ.ret (fl := [true]) (by kernel_rfl)
  ·refine cF ((decide (c0 ≥ 19))) hb_2 ?_
   refine Wp.skipN (by kernel_rfl) ?_
   refine blockQ_norm ?_
   refine seqQ_norm ?_
   refine sN ?_
   refine rg0 hc 3 [(2, I (wr (c0 - 3)))] [] ?_
   refine seqQ_norm ?_
   refine Wp.retN (by kernel_rfl) ?_
   obtain rfl := Option.some.inj h
   exact RetQ.ret (fl := [true]) (by kernel_rfl)
def spec_l2Graded_F1 (c : Ctx) (ty0 : List Int) (size1 : Int) (closed2 : Bool) (i_9 : Int) : (Unit) ⊕ (Bool) → Exit → AState → Prop
 | .inl _ => Into c .normal (mkS [(0, sI ty0), (1, I size1), (2, .bool closed2), (7, I i_9)] [])
 | .inr r => RetE TIx Try.f136 [] (.bool r)
def spec_l2Graded_F2 (c : Ctx) : (Unit) ⊕ (Bool) → Exit → AState → Prop
 | .inl _ => Into c (.exit 0) (mkS [] [])
 | .inr r => RetE TIx Try.f136 [] (.bool r)
def spec_l2Graded_l0 (p : (List Int) × Int × Bool × Int) : Option ((Unit) ⊕ (Bool)) :=
 match p with
 | (ty0, size1, closed2, i_9) =>
  if (decide (i_9 < (ty0.length : Int))) = true then
   (
    (idx ty0 i_9) >>= fun e_4_2 =>
    (spec_l2Kids e_4_2) >>= fun r_4_4 =>
    if (decide (r_4_4 > 0)) = true then
     (idx ty0 i_9) >>= fun e_4_9 =>
     some ((decide (e_4_9 > 2)))
    else
     some (false)
   ) >>= fun v_11 =>
   ((
    if v_11 = true then
     (idx ty0 i_9) >>= fun e_5_2 =>
     (spec_l2Grade e_5_2) >>= fun r_5_4 =>
     (
      if (decide (r_5_4 ≥ size1)) = true then
       some (true)
      else
       if closed2 = true then
        some ((decide (r_5_4 < 0)))
       else
        some (false)
     ) >>= fun v_14 =>
     if v_14 = true then
      some (.inr false)
     else
      some (.inl ())
    else
     some (.inl ())) : Option ((Unit) ⊕ (Bool))) >>= fun fl => match fl with
   | .inl () =>
    spec_l2Graded_l0 (ty0, size1, closed2, (wr (i_9 + 1)))
   | .inr r =>
    some (.inr r)
  else
   some (.inl ())
 partial_fixpoint
def M_spec_l2Graded_l0 (p : (List Int) × Int × Bool × Int) (fl : (Unit) ⊕ (Bool)) : Prop :=
 match p with
 | (ty0, size1, closed2, i_9) => ∀ c : Ctx, c.nt = 43 → WpL Try.prog c (cl (cl (cr (cl (cr B136))))) (spec_l2Graded_F2 c fl) (mkS [(0, sI ty0), (1, I size1), (2, .bool closed2), (7, I i_9)] [])
theorem spec_l2Graded_l0_s : ∀ p r, spec_l2Graded_l0 p = some r → M_spec_l2Graded_l0 p r := by
 refine spec_l2Graded_l0.partial_correctness M_spec_l2Graded_l0 ?_
 rintro spec_l2Graded_l0_f spec_l2Graded_l0_ih ⟨ty0, size1, closed2, i_9⟩ r h
 intro c hc
 show WpL Try.prog c (cl (cl (cr (cl (cr B136))))) (spec_l2Graded_F2 c r) (mkS [(0, sI ty0), (1, I size1), (2, .bool closed2), (7, I i_9)] [])
 refine WpL.step ?_
 refine sN ?_
 refine sN ?_
 refine rg hc none [oN, oN, some (.eqv (.no) ⟨[(11, I (ty0.length : Int))], [], []⟩), oN] [(0, sI ty0), (1, I size1), (2, .bool closed2), (7, I i_9), (12, .bool (decide (i_9 < (ty0.length : Int))))] [] (ai (lenT (d := 11) I ty0) trivial) ?_
 refine seqQ_norm ?_
 rcases itesome h with ⟨hb_10, h⟩ | ⟨hb_10, h⟩
 ·refine cT ((decide (i_9 < (ty0.length : Int)))) hb_10 ?_
  refine Wp.skipN (by kernel_rfl) ?_
  refine seqQ_norm ?_
  refine sN ?_
  refine Wp.blockN (i := 1) (by kernel_rfl) ?_
  refine sN ?_
  obtain ⟨v_11, hj_12, h⟩ := bsome h
  refine Wp.into (x := .normal) (mkS [(0, sI ty0), (1, I size1), (2, .bool closed2), (7, I i_9), (27, .bool v_11)] []) ?_ ?_
  ·replace h := hj_12
   obtain ⟨e_4_2, hi_4_2, h⟩ := bsome h
   obtain ⟨r_4_4, hr_4_4, h⟩ := bsome h
   rcases itesome h with ⟨hb_4_0, h⟩ | ⟨hb_4_0, h⟩
   ·obtain ⟨e_4_9, hi_4_9, h⟩ := bsome h
    refine rg hc none [oN, oN, some (.el (I e_4_2)), oN, oc (I r_4_4), oN, oN, oN, oN, some (.el (I e_4_9)), oN, oN, oT] [(0, sI ty0), (1, I size1), (2, .bool closed2), (7, I i_9), (27, .bool (decide (e_4_9 > 2)))] [] (ai (ix hi_4_2) (ai (spec_l2Kids_s _ _ hr_4_4) (ai bod_138 (ai (oi (I r_4_4)) (ar 3 hb_4_0 (ai (ix hi_4_9) (ar 3 hb_4_0 trivial))))))) ?_
    obtain rfl := Option.some.inj h
    exact Into.mk
   ·refine rg hc none [oN, oN, some (.el (I e_4_2)), oN, oc (I r_4_4), oN, oN, o_, o_, o_, o_, o_, oF] [(0, sI ty0), (1, I size1), (2, .bool closed2), (7, I i_9), (27, .bool false)] [] (ai (ix hi_4_2) (ai (spec_l2Kids_s _ _ hr_4_4) (ai bod_138 (ai (oi (I r_4_4)) (ar 5 (neT hb_4_0) (ai hb_4_0 trivial)))))) ?_
    obtain rfl := Option.some.inj h
    exact Into.mk
  ·clear hj_12
   refine seqQ_norm ?_
   obtain ⟨fl, hj_17, h⟩ := bsome h
   have hF : Wp Try.prog c (cr (cl (cl (cr (cl (cl (cr (cl (cr B136))))))))) (spec_l2Graded_F1 c ty0 size1 closed2 i_9 fl) (mkS [(0, sI ty0), (1, I size1), (2, .bool closed2), (7, I i_9), (27, .bool v_11)] []) := by
    replace h := hj_17
    rcases itesome h with ⟨hb_13, h⟩ | ⟨hb_13, h⟩
    ·refine cT v_11 hb_13 ?_
     refine sN ?_
     obtain ⟨e_5_2, hi_5_2, h⟩ := bsome h
     obtain ⟨r_5_4, hr_5_4, h⟩ := bsome h
     refine rg hc none [oN, oN, some (.el (I e_5_2)), oN, oc (I r_5_4), oN] [(0, sI ty0), (1, I size1), (2, .bool closed2), (7, I i_9), (8, I r_5_4)] [] (ai (ix hi_5_2) (ai (spec_l2Grade_s _ _ hr_5_4) (ai bod_74 (ai (oi (I r_5_4)) trivial)))) ?_
     refine seqQ_norm ?_
     refine sN ?_
     obtain ⟨v_14, hj_15, h⟩ := bsome h
     refine Wp.into (x := .normal) (mkS [(0, sI ty0), (1, I size1), (2, .bool closed2), (7, I i_9), (42, .bool v_14)] []) ?_ ?_
     ·replace h := hj_15
      rcases itesome h with ⟨hb_6_0, h⟩ | ⟨hb_6_0, h⟩
      ·refine rg hc none [oN, oN, oN, oN, o_, o_, o_, o_, o_, oT] [(0, sI ty0), (1, I size1), (2, .bool closed2), (7, I i_9), (42, .bool true)] [] (ar 3 (neF hb_6_0) (ai hb_6_0 trivial)) ?_
       obtain rfl := Option.some.inj h
       exact Into.mk
      ·rcases itesome h with ⟨hb_6_1, h⟩ | ⟨hb_6_1, h⟩
       ·refine rg hc none [oN, oN, oN, oN, oN, oN, oN, oN, oT, oF] [(0, sI ty0), (1, I size1), (2, .bool closed2), (7, I i_9), (42, .bool (decide (r_5_4 < 0)))] [] (ar 2 hb_6_0 (ar 2 hb_6_1 (ai hb_6_0 (ai hb_6_1 (ai hb_6_0 trivial))))) ?_
        obtain rfl := Option.some.inj h
        exact Into.mk
       ·refine rg hc none [oN, oN, oN, oN, oN, oN, o_, o_, oF, oF] [(0, sI ty0), (1, I size1), (2, .bool closed2), (7, I i_9), (42, .bool false)] [] (ar 2 hb_6_0 (ar 2 (neT hb_6_1) (ai hb_6_0 (ai hb_6_1 (ai hb_6_0 trivial))))) ?_
        obtain rfl := Option.some.inj h
        exact Into.mk
     ·clear hj_15
      refine seqQ_norm ?_
      rcases itesome h with ⟨hb_16, h⟩ | ⟨hb_16, h⟩
      ·refine cT v_14 hb_16 ?_
       refine sN ?_
       refine rg0 hc 1 [(6, .bool false)] [] ?_
       refine seqQ_norm ?_
       refine Wp.retN (by kernel_rfl) ?_
       obtain rfl := Option.some.inj h
       exact RetE.ret (fl := [true]) (by kernel_rfl)
      ·refine cF v_14 hb_16 ?_
       refine Wp.skipN (by kernel_rfl) ?_
       obtain rfl := Option.some.inj h
       exact Into.view (fun a w hv => SRx.renL [] hv (by kernel_rfl) (by kernel_rfl) (by kernel_rfl))
    ·refine cF v_11 hb_13 ?_
     refine Wp.skipN (by kernel_rfl) ?_
     obtain rfl := Option.some.inj h
     exact Into.view (fun a w hv => SRx.renL [] hv (by kernel_rfl) (by kernel_rfl) (by kernel_rfl))
   rcases fl with ⟨⟩ | r
   ·refine Wp.into (x := .normal) (mkS [(0, sI ty0), (1, I size1), (2, .bool closed2), (7, I i_9)] []) hF ?_
    refine blockQ_norm ?_
    refine seqQ_norm ?_
    refine rg0 hc 3 [(0, sI ty0), (1, I size1), (2, .bool closed2), (7, I (wr (i_9 + 1)))] [] ?_
    refine loopQ_norm ?_
    exact (spec_l2Graded_l0_ih _ _ h c hc)
   ·refine Wp.mono hF ?_
    rintro _ _ ⟨rfl, hfin⟩
    refine blockQ_ret ?_
    refine seqQ_ret ?_
    refine loopQ_ret ?_
    obtain rfl := Option.some.inj h
    exact ⟨rfl, hfin⟩
 ·refine cF ((decide (i_9 < (ty0.length : Int)))) hb_10 ?_
  refine Wp.exitN (i := 0) (by kernel_rfl) ?_
  refine seqQ_exit ?_
  refine loopQ_exit ?_
  obtain rfl := Option.some.inj h
  exact Into.view (fun a w hv => SRx.renL [] hv (by kernel_rfl) (by kernel_rfl) (by kernel_rfl))
def spec_l2Graded (p : (List Int) × Int × Bool) : Option (Bool) :=
 match p with
 | (ty0, size1, closed2) =>
  (spec_l2Graded_l0 (ty0, size1, closed2, 0)) >>= fun fl => match fl with
  | .inl () =>
   some true
  | .inr r =>
   some r
def M_spec_l2Graded (p : (List Int) × Int × Bool) (r : Bool) : Prop :=
 match p with
 | (ty0, size1, closed2) => FnSound Try.prog 136 [sI ty0, I size1, .bool closed2] (.bool r) []
theorem spec_l2Graded_s : ∀ p r, spec_l2Graded p = some r → M_spec_l2Graded p r := by
 rintro ⟨ty0, size1, closed2⟩ r h
 unfold spec_l2Graded at h
 show FnSound Try.prog 136 [sI ty0, I size1, .bool closed2] (.bool r) []
 refine FnSound.body0 tiok (fn := Try.f136) (code := B136) (by kernel_rfl) (by kernel_rfl) (by kernel_rfl) (by kernel_rfl) (nt := 43) (by kernel_rfl) (by kernel_rfl) (T := [(0, sI ty0), (1, I size1), (2, .bool closed2)]) (O := []) (by kernel_rfl) (by kernel_rfl) (fun c hc => ?_)
 refine sN ?_
 refine rg0 hc 1 [(0, sI ty0), (1, I size1), (2, .bool closed2)] [] ?_
 refine seqQ_norm ?_
 refine sN ?_
 refine sN ?_
 refine rg0 hc 1 [(0, sI ty0), (1, I size1), (2, .bool closed2), (7, I 0)] [] ?_
 refine seqQ_norm ?_
 refine Wp.blockN (i := 0) (by kernel_rfl) ?_
 obtain ⟨fl, hl_18, h⟩ := bsome h
 have hL := spec_l2Graded_l0_s _ _ hl_18 c hc
 refine Wp.loopN (by kernel_rfl) ?_
 rcases fl with ⟨⟩ | r
 ·refine WpL.into (e := (.exit 0)) (mkS [] []) hL ?_
  refine blockQ_hit ?_
  refine seqQ_norm ?_
  refine sN ?_
  refine rg0 hc 1 [(6, .bool true)] [] ?_
  refine seqQ_norm ?_
  refine Wp.retN (by kernel_rfl) ?_
  obtain rfl := Option.some.inj h
  exact RetQ.ret (fl := [true]) (by kernel_rfl)
 ·refine WpL.mono hL ?_
  rintro _ _ ⟨rfl, hfin⟩
  refine blockQ_ret ?_
  refine seqQ_ret ?_
  obtain rfl := Option.some.inj h
  exact ⟨.inl rfl, hfin⟩
def spec_IsType (p : GSystem × (List Int)) : Option (Bool) :=
 match p with
 | (s0, ty1) =>
  (
   (spec_IsSystem s0) >>= fun r_1_1 =>
   if r_1_1 = true then
    (spec_l2Type ty1) >>= fun r_1_4 =>
    if r_1_4 = true then
     (spec_l2Graded (ty1, s0.fSize, true)) >>= fun r_1_10 =>
     some (r_1_10)
    else
     some (false)
   else
    some (false)
  ) >>= fun v_1 =>
  some v_1
def M_spec_IsType (p : GSystem × (List Int)) (r : Bool) : Prop :=
 match p with
 | (s0, ty1) => FnSound Try.prog 105 [aSystem s0, sI ty1] (.bool r) []
theorem spec_IsType_s : ∀ p r, spec_IsType p = some r → M_spec_IsType p r := by
 rintro ⟨s0, ty1⟩ r h
 unfold spec_IsType at h
 show FnSound Try.prog 105 [aSystem s0, sI ty1] (.bool r) []
 refine FnSound.body0 tiok (fn := Try.f105) (code := B105) (by kernel_rfl) (by kernel_rfl) (by kernel_rfl) (by kernel_rfl) (nt := 17) (by kernel_rfl) (by kernel_rfl) (T := [(0, aSystem s0), (1, sI ty1)]) (O := []) (by kernel_rfl) (by kernel_rfl) (fun c hc => ?_)
 refine sN ?_
 refine rg hc none [some (.new 1), oN] [(1, sI ty1), (2, .ra 1 0)] [(1, bSystem s0)] trivial ?_
 refine seqQ_norm ?_
 refine sN ?_
 obtain ⟨v_1, hj_2, h⟩ := bsome h
 refine Wp.into (x := .normal) (mkS [(4, .bool v_1)] []) ?_ ?_
 ·replace h := hj_2
  obtain ⟨r_1_1, hr_1_1, h⟩ := bsome h
  rcases itesome h with ⟨hb_1_0, h⟩ | ⟨hb_1_0, h⟩
  ·obtain ⟨r_1_4, hr_1_4, h⟩ := bsome h
   rcases itesome h with ⟨hb_1_1, h⟩ | ⟨hb_1_1, h⟩
   ·obtain ⟨r_1_10, hr_1_10, h⟩ := bsome h
    refine rg hc none [oN, oc (.bool r_1_1), oN, oN, oc (.bool r_1_4), oT, oN, oN, oN, oN, oc (.bool r_1_10), oT, oN] [(4, .bool r_1_10)] [] (ai (spec_IsSystem_s _ _ hr_1_1) (ai bod_80 (ai (oi (.bool r_1_1)) (ar 2 hb_1_0 (ai (spec_l2Type_s _ _ hr_1_4) (ai bod_135 (ai (oi (.bool r_1_4)) (ai hb_1_0 (ar 4 hb_1_1 (ai (spec_l2Graded_s _ _ hr_1_10) (ai bod_136 (ai (oi (.bool r_1_10)) (ai hb_1_1 trivial))))))))))))) ?_
    obtain rfl := Option.some.inj h
    exact Into.mk
   ·refine rg hc none [oN, oc (.bool r_1_1), oN, oN, oc (.bool r_1_4), oT, oN, o_, o_, o_, o_, oF, oN] [(4, .bool false)] [] (ai (spec_IsSystem_s _ _ hr_1_1) (ai bod_80 (ai (oi (.bool r_1_1)) (ar 2 hb_1_0 (ai (spec_l2Type_s _ _ hr_1_4) (ai bod_135 (ai (oi (.bool r_1_4)) (ai hb_1_0 (ar 4 (neT hb_1_1) (ai hb_1_1 trivial)))))))))) ?_
    obtain rfl := Option.some.inj h
    exact Into.mk
  ·refine rg hc none [oN, oc (.bool r_1_1), oN, o_, o_, oF, oN, o_, o_, o_, o_, oF, oN] [(4, .bool false)] [] (ai (spec_IsSystem_s _ _ hr_1_1) (ai bod_80 (ai (oi (.bool r_1_1)) (ar 2 (neT hb_1_0) (ai hb_1_0 (ar 4 (neT (rfl : false = false)) (ai (rfl : false = false) trivial))))))) ?_
   obtain rfl := Option.some.inj h
   exact Into.mk
 ·clear hj_2
  refine seqQ_norm ?_
  refine Wp.retN (by kernel_rfl) ?_
  obtain rfl := Option.some.inj h
  exact RetQ.ret (fl := [true]) (by kernel_rfl)
def spec_l2Data_F1 (c : Ctx) : (Unit) ⊕ (Bool) → Exit → AState → Prop
 | .inl _ => Into c (.exit 0) (mkS [] [])
 | .inr r => RetE TIx Try.f106 [] (.bool r)
def spec_l2Data_l0 (p : (List Int) × Int) : Option ((Unit) ⊕ (Bool)) :=
 match p with
 | (ty0, i_3) =>
  if (decide (i_3 < (ty0.length : Int))) = true then
   (idx ty0 i_3) >>= fun e_4_2 =>
   (spec_l2Arrow e_4_2) >>= fun r_4_4 =>
   if r_4_4 = true then
    some (.inr false)
   else
    spec_l2Data_l0 (ty0, (wr (i_3 + 1)))
  else
   some (.inl ())
 partial_fixpoint
def M_spec_l2Data_l0 (p : (List Int) × Int) (fl : (Unit) ⊕ (Bool)) : Prop :=
 match p with
 | (ty0, i_3) => ∀ c : Ctx, c.nt = 15 → WpL Try.prog c (cl (cl (cr (cl (cr B106))))) (spec_l2Data_F1 c fl) (mkS [(0, sI ty0), (3, I i_3)] [])
theorem spec_l2Data_l0_s : ∀ p r, spec_l2Data_l0 p = some r → M_spec_l2Data_l0 p r := by
 refine spec_l2Data_l0.partial_correctness M_spec_l2Data_l0 ?_
 rintro spec_l2Data_l0_f spec_l2Data_l0_ih ⟨ty0, i_3⟩ r h
 intro c hc
 show WpL Try.prog c (cl (cl (cr (cl (cr B106))))) (spec_l2Data_F1 c r) (mkS [(0, sI ty0), (3, I i_3)] [])
 refine WpL.step ?_
 refine sN ?_
 refine sN ?_
 refine rg hc none [oN, oN, some (.eqv (.no) ⟨[(6, I (ty0.length : Int))], [], []⟩), oN] [(0, sI ty0), (3, I i_3), (7, .bool (decide (i_3 < (ty0.length : Int))))] [] (ai (lenT (d := 6) I ty0) trivial) ?_
 refine seqQ_norm ?_
 rcases itesome h with ⟨hb_4, h⟩ | ⟨hb_4, h⟩
 ·refine cT ((decide (i_3 < (ty0.length : Int)))) hb_4 ?_
  refine Wp.skipN (by kernel_rfl) ?_
  refine seqQ_norm ?_
  refine sN ?_
  refine Wp.blockN (i := 1) (by kernel_rfl) ?_
  refine sN ?_
  obtain ⟨e_4_2, hi_4_2, h⟩ := bsome h
  obtain ⟨r_4_4, hr_4_4, h⟩ := bsome h
  refine rg hc none [oN, oN, some (.el (I e_4_2)), oN, oc (.bool r_4_4)] [(0, sI ty0), (3, I i_3), (14, .bool r_4_4)] [] (ai (ix hi_4_2) (ai (spec_l2Arrow_s _ _ hr_4_4) (ai bod_137 (ai (oi (.bool r_4_4)) trivial)))) ?_
  refine seqQ_norm ?_
  rcases itesome h with ⟨hb_5, h⟩ | ⟨hb_5, h⟩
  ·refine cT r_4_4 hb_5 ?_
   refine sN ?_
   refine rg0 hc 1 [(2, .bool false)] [] ?_
   refine seqQ_norm ?_
   refine Wp.retN (by kernel_rfl) ?_
   refine blockQ_ret ?_
   refine seqQ_ret ?_
   refine loopQ_ret ?_
   obtain rfl := Option.some.inj h
   exact RetE.ret (fl := [true]) (by kernel_rfl)
  ·refine cF r_4_4 hb_5 ?_
   refine Wp.skipN (by kernel_rfl) ?_
   refine blockQ_norm ?_
   refine seqQ_norm ?_
   refine rg0 hc 3 [(0, sI ty0), (3, I (wr (i_3 + 1)))] [] ?_
   refine loopQ_norm ?_
   exact (spec_l2Data_l0_ih _ _ h c hc)
 ·refine cF ((decide (i_3 < (ty0.length : Int)))) hb_4 ?_
  refine Wp.exitN (i := 0) (by kernel_rfl) ?_
  refine seqQ_exit ?_
  refine loopQ_exit ?_
  obtain rfl := Option.some.inj h
  exact Into.view (fun a w hv => SRx.renL [] hv (by kernel_rfl) (by kernel_rfl) (by kernel_rfl))
def spec_l2Data (ty0 : (List Int)) : Option (Bool) :=
  (spec_l2Data_l0 (ty0, 0)) >>= fun fl => match fl with
  | .inl () =>
   some true
  | .inr r =>
   some r
def M_spec_l2Data (ty0 : (List Int)) (r : Bool) : Prop :=
 FnSound Try.prog 106 [sI ty0] (.bool r) []
theorem spec_l2Data_s : ∀ p r, spec_l2Data p = some r → M_spec_l2Data p r := by
 rintro ty0 r h
 unfold spec_l2Data at h
 show FnSound Try.prog 106 [sI ty0] (.bool r) []
 refine FnSound.body0 tiok (fn := Try.f106) (code := B106) (by kernel_rfl) (by kernel_rfl) (by kernel_rfl) (by kernel_rfl) (nt := 15) (by kernel_rfl) (by kernel_rfl) (T := [(0, sI ty0)]) (O := []) (by kernel_rfl) (by kernel_rfl) (fun c hc => ?_)
 refine sN ?_
 refine rg0 hc 1 [(0, sI ty0)] [] ?_
 refine seqQ_norm ?_
 refine sN ?_
 refine sN ?_
 refine rg0 hc 1 [(0, sI ty0), (3, I 0)] [] ?_
 refine seqQ_norm ?_
 refine Wp.blockN (i := 0) (by kernel_rfl) ?_
 obtain ⟨fl, hl_6, h⟩ := bsome h
 have hL := spec_l2Data_l0_s _ _ hl_6 c hc
 refine Wp.loopN (by kernel_rfl) ?_
 rcases fl with ⟨⟩ | r
 ·refine WpL.into (e := (.exit 0)) (mkS [] []) hL ?_
  refine blockQ_hit ?_
  refine seqQ_norm ?_
  refine sN ?_
  refine rg0 hc 1 [(2, .bool true)] [] ?_
  refine seqQ_norm ?_
  refine Wp.retN (by kernel_rfl) ?_
  obtain rfl := Option.some.inj h
  exact RetQ.ret (fl := [true]) (by kernel_rfl)
 ·refine WpL.mono hL ?_
  rintro _ _ ⟨rfl, hfin⟩
  refine blockQ_ret ?_
  refine seqQ_ret ?_
  obtain rfl := Option.some.inj h
  exact ⟨.inl rfl, hfin⟩
def spec_IsData (p : GSystem × (List Int)) : Option (Bool) :=
 match p with
 | (s0, ty1) =>
  (
   (spec_IsType (s0, ty1)) >>= fun r_1_2 =>
   if r_1_2 = true then
    (spec_l2Data ty1) >>= fun r_1_5 =>
    some (r_1_5)
   else
    some (false)
  ) >>= fun v_1 =>
  some v_1
def M_spec_IsData (p : GSystem × (List Int)) (r : Bool) : Prop :=
 match p with
 | (s0, ty1) => FnSound Try.prog 67 [aSystem s0, sI ty1] (.bool r) []
theorem spec_IsData_s : ∀ p r, spec_IsData p = some r → M_spec_IsData p r := by
 rintro ⟨s0, ty1⟩ r h
 unfold spec_IsData at h
 show FnSound Try.prog 67 [aSystem s0, sI ty1] (.bool r) []
 refine FnSound.body0 tiok (fn := Try.f67) (code := B67) (by kernel_rfl) (by kernel_rfl) (by kernel_rfl) (by kernel_rfl) (nt := 12) (by kernel_rfl) (by kernel_rfl) (T := [(0, aSystem s0), (1, sI ty1)]) (O := []) (by kernel_rfl) (by kernel_rfl) (fun c hc => ?_)
 refine sN ?_
 refine rg hc none [some (.new 1), oN] [(1, sI ty1), (2, .ra 1 0)] [(1, bSystem s0)] trivial ?_
 refine seqQ_norm ?_
 refine sN ?_
 obtain ⟨v_1, hj_2, h⟩ := bsome h
 refine Wp.into (x := .normal) (mkS [(4, .bool v_1)] []) ?_ ?_
 ·replace h := hj_2
  obtain ⟨r_1_2, hr_1_2, h⟩ := bsome h
  rcases itesome h with ⟨hb_1_0, h⟩ | ⟨hb_1_0, h⟩
  ·obtain ⟨r_1_5, hr_1_5, h⟩ := bsome h
   refine rg hc none [oN, oN, oc (.bool r_1_2), oN, oN, oc (.bool r_1_5), oT, oN] [(4, .bool r_1_5)] [] (ai (spec_IsType_s _ _ hr_1_2) (ai bod_105 (ai (oi (.bool r_1_2)) (ar 2 hb_1_0 (ai (spec_l2Data_s _ _ hr_1_5) (ai bod_106 (ai (oi (.bool r_1_5)) (ai hb_1_0 trivial)))))))) ?_
   obtain rfl := Option.some.inj h
   exact Into.mk
  ·refine rg hc none [oN, oN, oc (.bool r_1_2), oN, o_, o_, oF, oN] [(4, .bool false)] [] (ai (spec_IsType_s _ _ hr_1_2) (ai bod_105 (ai (oi (.bool r_1_2)) (ar 2 (neT hb_1_0) (ai hb_1_0 trivial))))) ?_
   obtain rfl := Option.some.inj h
   exact Into.mk
 ·clear hj_2
  refine seqQ_norm ?_
  refine Wp.retN (by kernel_rfl) ?_
  obtain rfl := Option.some.inj h
  exact RetQ.ret (fl := [true]) (by kernel_rfl)
def spec_l2Left_F1 (c : Ctx) : Int → Exit → AState → Prop
 | left_9 => Into c (.exit 0) (mkS [(1, I left_9)] [])
mutual
def spec_l2Left (p : GTerm × Int) : Option (Int) :=
 match p with
 | (t0, left1) =>
  (spec_l2Left_l0 (t0, (wr (left1 - 1)), 0)) >>= fun left_9 =>
  some left_9
 partial_fixpoint
def spec_l2Left_l0 (p : GTerm × Int × Int) : Option (Int) :=
 match p with
 | (t0, left_4, k_5) =>
  (
   if (decide (k_5 < (t0.fKids.length : Int))) = true then
    some ((decide (left_4 ≥ 0)))
   else
    some (false)
  ) >>= fun v_6 =>
  if v_6 = true then
   (idx t0.fKids k_5) >>= fun e_5_3 =>
   (spec_l2Left (e_5_3, left_4)) >>= fun r_5_6 =>
   spec_l2Left_l0 (t0, r_5_6, (wr (k_5 + 1)))
  else
   some (left_4)
 partial_fixpoint
end
def M_spec_l2Left (p : GTerm × Int) (r : Int) : Prop :=
 match p with
 | (t0, left1) => FnSound Try.prog 97 [aTerm t0, I left1] (I r) []
def M_spec_l2Left_l0 (p : GTerm × Int × Int) (fl : Int) : Prop :=
 match p with
 | (t0, left_4, k_5) => ∀ c : Ctx, c.nt = 27 → WpL Try.prog c (cl (cl (cr (cl (cr (cr B97)))))) (spec_l2Left_F1 c fl) (mkS [(1, I left_4), (2, .ra 1 0), (5, I k_5)] [(1, bTerm t0)])
theorem spec_l2Left_all : (∀ p r, spec_l2Left p = some r → M_spec_l2Left p r) ∧ (∀ p r, spec_l2Left_l0 p = some r → M_spec_l2Left_l0 p r) := by
 refine spec_l2Left.mutual_partial_correctness M_spec_l2Left M_spec_l2Left_l0 ?_ ?_
 ·rintro spec_l2Left_l0_f spec_l2Left_l0_ih ⟨t0, left1⟩ r h
  show FnSound Try.prog 97 [aTerm t0, I left1] (I r) []
  refine FnSound.body0 tiok (fn := Try.f97) (code := B97) (by kernel_rfl) (by kernel_rfl) (by kernel_rfl) (by kernel_rfl) (nt := 27) (by kernel_rfl) (by kernel_rfl) (T := [(0, aTerm t0), (1, I left1)]) (O := []) (by kernel_rfl) (by kernel_rfl) (fun c hc => ?_)
  refine sN ?_
  refine rg hc none [some (.new 1), oN] [(1, I left1), (2, .ra 1 0)] [(1, bTerm t0)] trivial ?_
  refine seqQ_norm ?_
  refine sN ?_
  refine rg0 hc 3 [(1, I (wr (left1 - 1))), (2, .ra 1 0)] [(1, bTerm t0)] ?_
  refine seqQ_norm ?_
  refine sN ?_
  refine sN ?_
  refine rg0 hc 1 [(1, I (wr (left1 - 1))), (2, .ra 1 0), (5, I 0)] [(1, bTerm t0)] ?_
  refine seqQ_norm ?_
  refine Wp.blockN (i := 0) (by kernel_rfl) ?_
  obtain ⟨left_9, hl_10, h⟩ := bsome h
  have hL := spec_l2Left_l0_ih _ _ hl_10 c hc
  refine Wp.loopN (by kernel_rfl) ?_
  ·refine WpL.into (e := (.exit 0)) (mkS [(1, I left_9)] []) hL ?_
   refine blockQ_hit ?_
   refine seqQ_norm ?_
   refine sN ?_
   refine rg0 hc 2 [(4, I left_9)] [] ?_
   refine seqQ_norm ?_
   refine Wp.retN (by kernel_rfl) ?_
   obtain rfl := Option.some.inj h
   exact RetQ.ret (fl := [true]) (by kernel_rfl)
 ·rintro spec_l2Left_f spec_l2Left_l0_f spec_l2Left_ih spec_l2Left_l0_ih ⟨t0, left_4, k_5⟩ r h
  intro c hc
  show WpL Try.prog c (cl (cl (cr (cl (cr (cr B97)))))) (spec_l2Left_F1 c r) (mkS [(1, I left_4), (2, .ra 1 0), (5, I k_5)] [(1, bTerm t0)])
  refine WpL.step ?_
  refine sN ?_
  refine sN ?_
  obtain ⟨v_6, hj_7, h⟩ := bsome h
  refine Wp.into (x := .normal) (mkS [(1, I left_4), (2, .ra 1 0), (5, I k_5), (16, .bool v_6)] [(1, bTerm t0)]) ?_ ?_
  ·replace h := hj_7
   rcases itesome h with ⟨hb_3_0, h⟩ | ⟨hb_3_0, h⟩
   ·refine rg hc none [oN, oN, oN, some (.eqv (.no) ⟨[(11, I (t0.fKids.length : Int))], [], []⟩), oN, oN, oN, oN, oT] [(1, I left_4), (2, .ra 1 0), (5, I k_5), (16, .bool (decide (left_4 ≥ 0)))] [(1, bTerm t0)] (ai (lenT (d := 11) GTerm_S t0.fKids) (ar 3 hb_3_0 trivial)) ?_
    obtain rfl := Option.some.inj h
    exact Into.mk
   ·refine rg hc none [oN, oN, oN, some (.eqv (.no) ⟨[(11, I (t0.fKids.length : Int))], [], []⟩), oN, oN, o_, o_, oF] [(1, I left_4), (2, .ra 1 0), (5, I k_5), (16, .bool false)] [(1, bTerm t0)] (ai (lenT (d := 11) GTerm_S t0.fKids) (ar 2 (neT hb_3_0) (ai hb_3_0 trivial))) ?_
    obtain rfl := Option.some.inj h
    exact Into.mk
  ·clear hj_7
   refine seqQ_norm ?_
   rcases itesome h with ⟨hb_8, h⟩ | ⟨hb_8, h⟩
   ·refine cT v_6 hb_8 ?_
    refine Wp.skipN (by kernel_rfl) ?_
    refine seqQ_norm ?_
    refine sN ?_
    refine Wp.blockN (i := 1) (by kernel_rfl) ?_
    obtain ⟨e_5_3, hi_5_3, h⟩ := bsome h
    obtain ⟨r_5_6, hr_5_6, h⟩ := bsome h
    refine rg hc none [oN, oN, oN, some (.el (aTerm e_5_3)), oN, oN, oc (I r_5_6), oN] [(1, I r_5_6), (2, .ra 1 0), (5, I k_5)] [(1, bTerm t0)] (ai (idx_sl (enc := GTerm_S) (x := aTerm e_5_3) hi_5_3 (eq_GTerm_S e_5_3)) (ai (spec_l2Left_ih _ _ hr_5_6) (ai bod_97 (ai (oi (I r_5_6)) trivial)))) ?_
    refine blockQ_norm ?_
    refine seqQ_norm ?_
    refine rg0 hc 3 [(1, I r_5_6), (2, .ra 1 0), (5, I (wr (k_5 + 1)))] [(1, bTerm t0)] ?_
    refine loopQ_norm ?_
    exact (spec_l2Left_l0_ih _ _ h c hc)
   ·refine cF v_6 hb_8 ?_
    refine Wp.exitN (i := 0) (by kernel_rfl) ?_
    refine seqQ_exit ?_
    refine loopQ_exit ?_
    obtain rfl := Option.some.inj h
    exact Into.view (fun a w hv => SRx.renL [] hv (by kernel_rfl) (by kernel_rfl) (by kernel_rfl))
theorem spec_l2Left_s : ∀ p r, spec_l2Left p = some r → M_spec_l2Left p r := spec_l2Left_all.1
theorem spec_l2Left_l0_s : ∀ p r, spec_l2Left_l0 p = some r → M_spec_l2Left_l0 p r := spec_l2Left_all.2
def spec_l2Many (op0 : Int) : Option (Int) :=
  (spec_l1In (op0, 0, 12)) >>= fun r_1_1 =>
  if r_1_1 = true then
   (idx [0, 0, 2, 3, 2, 2, 1, 1, 3, 1, 2, 1, 2] op0) >>= fun e_3_2 =>
   some e_3_2
  else
   some (-1)
def M_spec_l2Many (op0 : Int) (r : Int) : Prop :=
 FnSound Try.prog 146 [I op0] (I r) []
theorem spec_l2Many_s : ∀ p r, spec_l2Many p = some r → M_spec_l2Many p r := by
 rintro op0 r h
 unfold spec_l2Many at h
 show FnSound Try.prog 146 [I op0] (I r) []
 refine FnSound.body0 tiok (fn := Try.f146) (code := B146) (by kernel_rfl) (by kernel_rfl) (by kernel_rfl) (by kernel_rfl) (nt := 10) (by kernel_rfl) (by kernel_rfl) (T := [(0, I op0)]) (O := []) (by kernel_rfl) (by kernel_rfl) (fun c hc => ?_)
 refine sN ?_
 refine rg0 hc 1 [(0, I op0)] [] ?_
 refine seqQ_norm ?_
 refine sN ?_
 refine sN ?_
 obtain ⟨r_1_1, hr_1_1, h⟩ := bsome h
 refine rg hc none [oN, oc (.bool r_1_1), oN] [(0, I op0), (5, .bool (!r_1_1))] [] (ai (spec_l1In_s _ _ hr_1_1) (ai bod_57 (ai (oi (.bool r_1_1)) trivial))) ?_
 refine seqQ_norm ?_
 rcases itesome h with ⟨hb_1, h⟩ | ⟨hb_1, h⟩
 ·refine cF (!r_1_1) (nF hb_1) ?_
  refine Wp.skipN (by kernel_rfl) ?_
  refine seqQ_norm ?_
  refine sN ?_
  obtain ⟨e_3_2, hi_3_2, h⟩ := bsome h
  refine rg hc none [some (.mk 1 true), oN, oN, some (.el (I e_3_2)), oN] [(2, I e_3_2)] [] (ai (idx_own (enc := I) hi_3_2) (ai (ix hi_3_2).2 trivial)) ?_
  refine seqQ_norm ?_
  refine Wp.retN (by kernel_rfl) ?_
  obtain rfl := Option.some.inj h
  exact RetQ.ret (fl := [true]) (by kernel_rfl)
 ·refine cT (!r_1_1) (nT hb_1) ?_
  refine sN ?_
  refine rg0 hc 1 [(2, I (-1))] [] ?_
  refine seqQ_norm ?_
  refine Wp.retN (by kernel_rfl) ?_
  refine seqQ_ret ?_
  obtain rfl := Option.some.inj h
  exact RetQ.ret (fl := [true]) (by kernel_rfl)
def spec_l2Has (op0 : Int) : Option (Bool) :=
  (
   if (op0 == 5) = true then
    some (true)
   else
    if (op0 == 8) = true then
     some (true)
    else
     if (op0 == 9) = true then
      some (true)
     else
      if (op0 == 11) = true then
       some (true)
      else
       some ((op0 == 12))
  ) >>= fun v_1 =>
  some v_1
def M_spec_l2Has (op0 : Int) (r : Bool) : Prop :=
 FnSound Try.prog 147 [I op0] (.bool r) []
theorem spec_l2Has_s : ∀ p r, spec_l2Has p = some r → M_spec_l2Has p r := by
 rintro op0 r h
 unfold spec_l2Has at h
 show FnSound Try.prog 147 [I op0] (.bool r) []
 refine FnSound.body0 tiok (fn := Try.f147) (code := B147) (by kernel_rfl) (by kernel_rfl) (by kernel_rfl) (by kernel_rfl) (nt := 21) (by kernel_rfl) (by kernel_rfl) (T := [(0, I op0)]) (O := []) (by kernel_rfl) (by kernel_rfl) (fun c hc => ?_)
 refine sN ?_
 refine rg0 hc 1 [(0, I op0)] [] ?_
 refine seqQ_norm ?_
 refine sN ?_
 obtain ⟨v_1, hj_2, h⟩ := bsome h
 refine Wp.into (x := .normal) (mkS [(2, .bool v_1)] []) ?_ ?_
 ·replace h := hj_2
  rcases itesome h with ⟨hb_1_0, h⟩ | ⟨hb_1_0, h⟩
  ·refine rg hc none [oN, oN, oN, o_, o_, oT, oN, o_, o_, oT, oN, o_, o_, oT, oN, o_, o_, oT, oN] [(2, .bool true)] [] (ar 2 (neF hb_1_0) (ai hb_1_0 (ar 2 nf (ai tt (ar 2 nf (ai tt (ar 2 nf (ai tt trivial)))))))) ?_
   obtain rfl := Option.some.inj h
   exact Into.mk
  ·rcases itesome h with ⟨hb_1_1, h⟩ | ⟨hb_1_1, h⟩
   ·refine rg hc none [oN, oN, oN, oN, oN, oF, oN, o_, o_, oT, oN, o_, o_, oT, oN, o_, o_, oT, oN] [(2, .bool true)] [] (ar 3 hb_1_0 (ar 2 (neF hb_1_1) (ai hb_1_1 (ar 2 nf (ai tt (ar 2 nf (ai tt trivial))))))) ?_
    obtain rfl := Option.some.inj h
    exact Into.mk
   ·rcases itesome h with ⟨hb_1_2, h⟩ | ⟨hb_1_2, h⟩
    ·refine rg hc none [oN, oN, oN, oN, oN, oF, oN, oN, oN, oF, oN, o_, o_, oT, oN, o_, o_, oT, oN] [(2, .bool true)] [] (ar 3 hb_1_0 (ar 3 hb_1_1 (ar 2 (neF hb_1_2) (ai hb_1_2 (ar 2 nf (ai tt trivial)))))) ?_
     obtain rfl := Option.some.inj h
     exact Into.mk
    ·rcases itesome h with ⟨hb_1_3, h⟩ | ⟨hb_1_3, h⟩
     ·refine rg hc none [oN, oN, oN, oN, oN, oF, oN, oN, oN, oF, oN, oN, oN, oF, oN, o_, o_, oT, oN] [(2, .bool true)] [] (ar 3 hb_1_0 (ar 3 hb_1_1 (ar 3 hb_1_2 (ar 2 (neF hb_1_3) (ai hb_1_3 trivial))))) ?_
      obtain rfl := Option.some.inj h
      exact Into.mk
     ·refine rg hc none [oN, oN, oN, oN, oN, oF, oN, oN, oN, oF, oN, oN, oN, oF, oN, oN, oN, oF, oN] [(2, .bool (op0 == 12))] [] (ar 3 hb_1_0 (ar 3 hb_1_1 (ar 3 hb_1_2 (ar 3 hb_1_3 trivial)))) ?_
      obtain rfl := Option.some.inj h
      exact Into.mk
 ·clear hj_2
  refine seqQ_norm ?_
  refine Wp.retN (by kernel_rfl) ?_
  obtain rfl := Option.some.inj h
  exact RetQ.ret (fl := [true]) (by kernel_rfl)
def spec_l2Typed (op0 : Int) : Option (Bool) :=
  (
   if (op0 == 6) = true then
    some (true)
   else
    if (op0 == 7) = true then
     some (true)
    else
     some ((op0 == 9))
  ) >>= fun v_1 =>
  some v_1
def M_spec_l2Typed (op0 : Int) (r : Bool) : Prop :=
 FnSound Try.prog 148 [I op0] (.bool r) []
theorem spec_l2Typed_s : ∀ p r, spec_l2Typed p = some r → M_spec_l2Typed p r := by
 rintro op0 r h
 unfold spec_l2Typed at h
 show FnSound Try.prog 148 [I op0] (.bool r) []
 refine FnSound.body0 tiok (fn := Try.f148) (code := B148) (by kernel_rfl) (by kernel_rfl) (by kernel_rfl) (by kernel_rfl) (nt := 13) (by kernel_rfl) (by kernel_rfl) (T := [(0, I op0)]) (O := []) (by kernel_rfl) (by kernel_rfl) (fun c hc => ?_)
 refine sN ?_
 refine rg0 hc 1 [(0, I op0)] [] ?_
 refine seqQ_norm ?_
 refine sN ?_
 obtain ⟨v_1, hj_2, h⟩ := bsome h
 refine Wp.into (x := .normal) (mkS [(2, .bool v_1)] []) ?_ ?_
 ·replace h := hj_2
  rcases itesome h with ⟨hb_1_0, h⟩ | ⟨hb_1_0, h⟩
  ·refine rg hc none [oN, oN, oN, o_, o_, oT, oN, o_, o_, oT, oN] [(2, .bool true)] [] (ar 2 (neF hb_1_0) (ai hb_1_0 (ar 2 nf (ai tt trivial)))) ?_
   obtain rfl := Option.some.inj h
   exact Into.mk
  ·rcases itesome h with ⟨hb_1_1, h⟩ | ⟨hb_1_1, h⟩
   ·refine rg hc none [oN, oN, oN, oN, oN, oF, oN, o_, o_, oT, oN] [(2, .bool true)] [] (ar 3 hb_1_0 (ar 2 (neF hb_1_1) (ai hb_1_1 trivial))) ?_
    obtain rfl := Option.some.inj h
    exact Into.mk
   ·refine rg hc none [oN, oN, oN, oN, oN, oF, oN, oN, oN, oF, oN] [(2, .bool (op0 == 9))] [] (ar 3 hb_1_0 (ar 3 hb_1_1 trivial)) ?_
    obtain rfl := Option.some.inj h
    exact Into.mk
 ·clear hj_2
  refine seqQ_norm ?_
  refine Wp.retN (by kernel_rfl) ?_
  obtain rfl := Option.some.inj h
  exact RetQ.ret (fl := [true]) (by kernel_rfl)
def spec_l2Node_F1 (c : Ctx) (t0 : GTerm) (size2 : Int) (closed3 : Bool) : (Unit) ⊕ (Bool) → Exit → AState → Prop
 | .inl _ => Into c .normal (mkS [(2, I size2), (3, .bool closed3), (4, .ra 1 0)] [(1, bTerm t0)])
 | .inr r => RetE TIx Try.f131 [] (.bool r)
def spec_l2Node_F2 (c : Ctx) (t0 : GTerm) (size2 : Int) (closed3 : Bool) : (Unit) ⊕ (Bool) → Exit → AState → Prop
 | .inl _ => Into c .normal (mkS [(2, I size2), (3, .bool closed3), (4, .ra 1 0)] [(1, bTerm t0)])
 | .inr r => RetE TIx Try.f131 [] (.bool r)
def spec_l2Node_F3 (c : Ctx) (t0 : GTerm) (size2 : Int) (closed3 : Bool) : (Unit) ⊕ (Bool) → Exit → AState → Prop
 | .inl _ => Into c .normal (mkS [(2, I size2), (3, .bool closed3), (4, .ra 1 0)] [(1, bTerm t0)])
 | .inr r => RetE TIx Try.f131 [] (.bool r)
end Go.Am
