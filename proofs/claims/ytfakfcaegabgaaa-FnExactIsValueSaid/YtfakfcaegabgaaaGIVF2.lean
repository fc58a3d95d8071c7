/- Functions of the program as pure functions, and that it computes them. Printed by a program of mine (gen.py). -/
import Derived.Test.YtfakfcaegabgaaaGIVF1
set_option linter.unusedVariables false
set_option linter.unusedSimpArgs false
set_option maxRecDepth 100000
namespace Go.Am
open Go Go.Proofs
def spec_l2Kids (c0 : Int) : Option (Int) :=
    if (c0 == 0) = true then
      some 0
    else
      (
        if (c0 == 1) = true then
          some (true)
        else
          if (c0 == 2) = true then
            some (true)
          else
            (spec_l2Arrow c0) >>= fun r_3_8 =>
            some (r_3_8)
      ) >>= fun v_2 =>
      if v_2 = true then
        some 2
      else
        (spec_l2Box c0) >>= fun r_5_1 =>
        if r_5_1 = true then
          some 1
        else
          some (-1)
def M_spec_l2Kids (c0 : Int) (r : Int) : Prop :=
  FnSound Try.prog 136 [.int .i64 c0] (.int .i64 r) []
theorem spec_l2Kids_s : ∀ p r, spec_l2Kids p = some r → M_spec_l2Kids p r := by
  rintro c0 r h
  unfold spec_l2Kids at h
  show FnSound Try.prog 136 [.int .i64 c0] (.int .i64 r) []
  refine FnSound.body0 tiok (fn := Try.f136) (code := B136) (by kernel_rfl) (by kernel_rfl) (by kernel_rfl) (by kernel_rfl) (nt := 20) (by kernel_rfl) (by kernel_rfl) (T := [(0, .int .i64 c0)]) (O := []) (by kernel_rfl) (by kernel_rfl) (fun c hc => ?_)
  refine Wp.seqN (by kernel_rfl) ?_
  refine Wp.reg tiok mix hc (by kernel_rfl) (ah := none) (rs := [some (.no)]) (kt := [0]) (ko := []) (T' := [(0, .int .i64 c0)]) (O' := []) (by kernel_rfl) trivial (by kernel_rfl) (by kernel_rfl) ?_
  refine seqQ_norm ?_
  refine Wp.seqN (by kernel_rfl) ?_
  refine Wp.blockN (i := 0) (by kernel_rfl) ?_
  refine Wp.seqN (by kernel_rfl) ?_
  refine Wp.reg tiok mix hc (by kernel_rfl) (ah := none) (rs := [some (.no), some (.no), some (.no)]) (kt := [0, 3]) (ko := []) (T' := [(0, .int .i64 c0), (3, .bool (c0 == 0))]) (O' := []) (by kernel_rfl) trivial (by kernel_rfl) (by kernel_rfl) ?_
  refine seqQ_norm ?_
  rcases itesome h with ⟨hb_1, h⟩ | ⟨hb_1, h⟩
  · refine Wp.condT (b := (c0 == 0)) (by kernel_rfl) (by kernel_rfl) hb_1 ?_
    refine Wp.seqN (by kernel_rfl) ?_
    refine Wp.reg tiok mix hc (by kernel_rfl) (ah := none) (rs := [some (.no)]) (kt := [2]) (ko := []) (T' := [(2, .int .i64 0)]) (O' := []) (by kernel_rfl) trivial (by kernel_rfl) (by kernel_rfl) ?_
    refine seqQ_norm ?_
    refine Wp.retN (by kernel_rfl) ?_
    refine blockQ_ret ?_
    refine seqQ_ret ?_
    obtain rfl := Option.some.inj h
    exact RetQ.ret (fl := [true]) (by kernel_rfl)
  · refine Wp.condF (b := (c0 == 0)) (by kernel_rfl) (by kernel_rfl) hb_1 ?_
    refine Wp.seqN (by kernel_rfl) ?_
    obtain ⟨v_2, hj_3, h⟩ := bsome h
    refine Wp.into (x := .normal) (mkS [(0, .int .i64 c0), (6, .bool v_2)] []) ?_ ?_
    · replace h := hj_3
      rcases itesome h with ⟨hb_3_0, h⟩ | ⟨hb_3_0, h⟩
      · refine Wp.reg tiok mix hc (by kernel_rfl) (ah := none) (rs := [some (.no), some (.no), some (.no), none, none, some (.cond true), some (.no), none, none, some (.cond true), some (.no)]) (kt := [0, 6]) (ko := []) (T' := [(0, .int .i64 c0), (6, .bool true)]) (O' := []) (by kernel_rfl) (And.intro (neF hb_3_0 : (c0 == 1) ≠ false) (And.intro (neF hb_3_0 : (c0 == 1) ≠ false) (And.intro hb_3_0 (And.intro (neF (rfl : true = true) : true ≠ false) (And.intro (neF (rfl : true = true) : true ≠ false) (And.intro (rfl : true = true) trivial)))))) (by kernel_rfl) (by kernel_rfl) ?_
        obtain rfl := Option.some.inj h
        exact Into.mk
      · rcases itesome h with ⟨hb_3_1, h⟩ | ⟨hb_3_1, h⟩
        · refine Wp.reg tiok mix hc (by kernel_rfl) (ah := none) (rs := [some (.no), some (.no), some (.no), some (.no), some (.no), some (.cond false), some (.no), none, none, some (.cond true), some (.no)]) (kt := [0, 6]) (ko := []) (T' := [(0, .int .i64 c0), (6, .bool true)]) (O' := []) (by kernel_rfl) (And.intro hb_3_0 (And.intro hb_3_0 (And.intro hb_3_0 (And.intro (neF hb_3_1 : (c0 == 2) ≠ false) (And.intro (neF hb_3_1 : (c0 == 2) ≠ false) (And.intro hb_3_1 trivial)))))) (by kernel_rfl) (by kernel_rfl) ?_
          obtain rfl := Option.some.inj h
          exact Into.mk
        · obtain ⟨r_3_8, hr_3_8, h⟩ := bsome h
          refine Wp.reg tiok mix hc (by kernel_rfl) (ah := none) (rs := [some (.no), some (.no), some (.no), some (.no), some (.no), some (.cond false), some (.no), some (.no), some (.call (.bool r_3_8) [] 1), some (.cond false), some (.no)]) (kt := [0, 6]) (ko := []) (T' := [(0, .int .i64 c0), (6, .bool r_3_8)]) (O' := []) (by kernel_rfl) (And.intro hb_3_0 (And.intro hb_3_0 (And.intro hb_3_0 (And.intro hb_3_1 (And.intro hb_3_1 (And.intro (spec_l2Arrow_s _ _ hr_3_8) (And.intro bod_158 (And.intro (Or.inl rfl : ([] : List Nat) = [] ∨ noSh (.bool r_3_8) = true) (And.intro hb_3_1 trivial))))))))) (by kernel_rfl) (by kernel_rfl) ?_
          obtain rfl := Option.some.inj h
          exact Into.mk
    · clear hj_3
      refine seqQ_norm ?_
      rcases itesome h with ⟨hb_4, h⟩ | ⟨hb_4, h⟩
      · refine Wp.condT (b := v_2) (by kernel_rfl) (by kernel_rfl) hb_4 ?_
        refine Wp.seqN (by kernel_rfl) ?_
        refine Wp.reg tiok mix hc (by kernel_rfl) (ah := none) (rs := [some (.no)]) (kt := [2]) (ko := []) (T' := [(2, .int .i64 2)]) (O' := []) (by kernel_rfl) trivial (by kernel_rfl) (by kernel_rfl) ?_
        refine seqQ_norm ?_
        refine Wp.retN (by kernel_rfl) ?_
        refine blockQ_ret ?_
        refine seqQ_ret ?_
        obtain rfl := Option.some.inj h
        exact RetQ.ret (fl := [true]) (by kernel_rfl)
      · refine Wp.condF (b := v_2) (by kernel_rfl) (by kernel_rfl) hb_4 ?_
        refine Wp.seqN (by kernel_rfl) ?_
        obtain ⟨r_5_1, hr_5_1, h⟩ := bsome h
        refine Wp.reg tiok mix hc (by kernel_rfl) (ah := none) (rs := [some (.no), some (.call (.bool r_5_1) [] 1), some (.no)]) (kt := [17]) (ko := []) (T' := [(17, .bool r_5_1)]) (O' := []) (by kernel_rfl) (And.intro (spec_l2Box_s _ _ hr_5_1) (And.intro bod_100 (And.intro (Or.inl rfl : ([] : List Nat) = [] ∨ noSh (.bool r_5_1) = true) trivial))) (by kernel_rfl) (by kernel_rfl) ?_
        refine seqQ_norm ?_
        rcases itesome h with ⟨hb_5, h⟩ | ⟨hb_5, h⟩
        · refine Wp.condT (b := r_5_1) (by kernel_rfl) (by kernel_rfl) hb_5 ?_
          refine Wp.seqN (by kernel_rfl) ?_
          refine Wp.reg tiok mix hc (by kernel_rfl) (ah := none) (rs := [some (.no)]) (kt := [2]) (ko := []) (T' := [(2, .int .i64 1)]) (O' := []) (by kernel_rfl) trivial (by kernel_rfl) (by kernel_rfl) ?_
          refine seqQ_norm ?_
          refine Wp.retN (by kernel_rfl) ?_
          refine blockQ_ret ?_
          refine seqQ_ret ?_
          obtain rfl := Option.some.inj h
          exact RetQ.ret (fl := [true]) (by kernel_rfl)
        · refine Wp.condF (b := r_5_1) (by kernel_rfl) (by kernel_rfl) hb_5 ?_
          refine Wp.skipN (by kernel_rfl) ?_
          refine blockQ_norm ?_
          refine seqQ_norm ?_
          refine Wp.seqN (by kernel_rfl) ?_
          refine Wp.reg tiok mix hc (by kernel_rfl) (ah := none) (rs := [some (.no)]) (kt := [2]) (ko := []) (T' := [(2, .int .i64 (-1))]) (O' := []) (by kernel_rfl) trivial (by kernel_rfl) (by kernel_rfl) ?_
          refine seqQ_norm ?_
          refine Wp.retN (by kernel_rfl) ?_
          obtain rfl := Option.some.inj h
          exact RetQ.ret (fl := [true]) (by kernel_rfl)
def spec_l2End_F1 (c : Ctx) : (Unit) ⊕ (Int) → Exit → AState → Prop
  | .inl _ => Into c (.exit 0) (mkS [] [])
  | .inr r => RetE TIx Try.f135 [] (.int .i64 r)
def spec_l2End_l0 (p : (List Int) × Int × Int) : Option ((Unit) ⊕ (Int)) :=
  match p with
  | (ty0, missing_4, i_5) =>
    if (decide (i_5 < (ty0.length : Int))) = true then
      (idx ty0 i_5) >>= fun e_5_2 =>
      (spec_l2Kids e_5_2) >>= fun r_5_4 =>
      if (decide (r_5_4 < 0)) = true then
        some (.inr (-1))
      else
        if ((wr ((wr (missing_4 - 1)) + r_5_4)) == 0) = true then
          some (.inr (wr (i_5 + 1)))
        else
          spec_l2End_l0 (ty0, (wr ((wr (missing_4 - 1)) + r_5_4)), (wr (i_5 + 1)))
    else
      some (.inl ())
  partial_fixpoint
def M_spec_l2End_l0 (p : (List Int) × Int × Int) (fl : (Unit) ⊕ (Int)) : Prop :=
  match p with
  | (ty0, missing_4, i_5) => ∀ c : Ctx, c.nt = 30 → WpL Try.prog c (cl (cl (cr (cl (cr (cr B135)))))) (spec_l2End_F1 c fl) (mkS [(0, .sl (List.map I ty0)), (5, .int .i64 missing_4), (6, .int .i64 i_5)] [])
theorem spec_l2End_l0_s : ∀ p r, spec_l2End_l0 p = some r → M_spec_l2End_l0 p r := by
  refine spec_l2End_l0.partial_correctness M_spec_l2End_l0 ?_
  rintro spec_l2End_l0_f spec_l2End_l0_ih ⟨ty0, missing_4, i_5⟩ r h
  intro c hc
  show WpL Try.prog c (cl (cl (cr (cl (cr (cr B135)))))) (spec_l2End_F1 c r) (mkS [(0, .sl (List.map I ty0)), (5, .int .i64 missing_4), (6, .int .i64 i_5)] [])
  refine WpL.step ?_
  refine Wp.seqN (by kernel_rfl) ?_
  refine Wp.seqN (by kernel_rfl) ?_
  refine Wp.reg tiok mix hc (by kernel_rfl) (ah := none) (rs := [some (.no), some (.no), some (.eqv (.no) ⟨[(11, .int .i64 (ty0.length : Int))], [], []⟩), some (.no)]) (kt := [0, 5, 6, 12]) (ko := []) (T' := [(0, .sl (List.map I ty0)), (5, .int .i64 missing_4), (6, .int .i64 i_5), (12, .bool (decide (i_5 < (ty0.length : Int))))]) (O' := []) (by kernel_rfl) (And.intro (lenT (d := 11) I ty0) trivial) (by kernel_rfl) (by kernel_rfl) ?_
  refine seqQ_norm ?_
  rcases itesome h with ⟨hb_6, h⟩ | ⟨hb_6, h⟩
  · refine Wp.condT (b := (decide (i_5 < (ty0.length : Int)))) (by kernel_rfl) (by kernel_rfl) hb_6 ?_
    refine Wp.skipN (by kernel_rfl) ?_
    refine seqQ_norm ?_
    refine Wp.seqN (by kernel_rfl) ?_
    refine Wp.blockN (i := 1) (by kernel_rfl) ?_
    refine Wp.seqN (by kernel_rfl) ?_
    obtain ⟨e_5_2, hi_5_2, h⟩ := bsome h
    obtain ⟨r_5_4, hr_5_4, h⟩ := bsome h
    refine Wp.reg tiok mix hc (by kernel_rfl) (ah := none) (rs := [some (.no), some (.no), some (.el (.int .i64 e_5_2)), some (.no), some (.call (.int .i64 r_5_4) [] 1), some (.no)]) (kt := [0, 5, 6, 7]) (ko := []) (T' := [(0, .sl (List.map I ty0)), (5, .int .i64 missing_4), (6, .int .i64 i_5), (7, .int .i64 r_5_4)]) (O' := []) (by kernel_rfl) (And.intro (idx_sl (enc := I) (x := .int .i64 e_5_2) hi_5_2 (eq_I e_5_2)) (And.intro (spec_l2Kids_s _ _ hr_5_4) (And.intro bod_136 (And.intro (Or.inl rfl : ([] : List Nat) = [] ∨ noSh (.int .i64 r_5_4) = true) trivial)))) (by kernel_rfl) (by kernel_rfl) ?_
    refine seqQ_norm ?_
    refine Wp.seqN (by kernel_rfl) ?_
    refine Wp.seqN (by kernel_rfl) ?_
    refine Wp.reg tiok mix hc (by kernel_rfl) (ah := none) (rs := [some (.no), some (.no)]) (kt := [0, 5, 6, 7, 21]) (ko := []) (T' := [(0, .sl (List.map I ty0)), (5, .int .i64 missing_4), (6, .int .i64 i_5), (7, .int .i64 r_5_4), (21, .bool (decide (r_5_4 < 0)))]) (O' := []) (by kernel_rfl) trivial (by kernel_rfl) (by kernel_rfl) ?_
    refine seqQ_norm ?_
    rcases itesome h with ⟨hb_7, h⟩ | ⟨hb_7, h⟩
    · refine Wp.condT (b := (decide (r_5_4 < 0))) (by kernel_rfl) (by kernel_rfl) hb_7 ?_
      refine Wp.seqN (by kernel_rfl) ?_
      refine Wp.reg tiok mix hc (by kernel_rfl) (ah := none) (rs := [some (.no)]) (kt := [4]) (ko := []) (T' := [(4, .int .i64 (-1))]) (O' := []) (by kernel_rfl) trivial (by kernel_rfl) (by kernel_rfl) ?_
      refine seqQ_norm ?_
      refine Wp.retN (by kernel_rfl) ?_
      refine seqQ_ret ?_
      refine blockQ_ret ?_
      refine seqQ_ret ?_
      refine loopQ_ret ?_
      obtain rfl := Option.some.inj h
      exact RetE.ret (fl := [true]) (by kernel_rfl)
    · refine Wp.condF (b := (decide (r_5_4 < 0))) (by kernel_rfl) (by kernel_rfl) hb_7 ?_
      refine Wp.skipN (by kernel_rfl) ?_
      refine seqQ_norm ?_
      refine Wp.seqN (by kernel_rfl) ?_
      refine Wp.reg tiok mix hc (by kernel_rfl) (ah := none) (rs := [some (.no), some (.no), some (.no), some (.no), some (.no)]) (kt := [0, 5, 6]) (ko := []) (T' := [(0, .sl (List.map I ty0)), (5, .int .i64 (wr ((wr (missing_4 - 1)) + r_5_4))), (6, .int .i64 i_5)]) (O' := []) (by kernel_rfl) trivial (by kernel_rfl) (by kernel_rfl) ?_
      refine seqQ_norm ?_
      refine Wp.seqN (by kernel_rfl) ?_
      refine Wp.reg tiok mix hc (by kernel_rfl) (ah := none) (rs := [some (.no), some (.no)]) (kt := [0, 5, 6, 27]) (ko := []) (T' := [(0, .sl (List.map I ty0)), (5, .int .i64 (wr ((wr (missing_4 - 1)) + r_5_4))), (6, .int .i64 i_5), (27, .bool ((wr ((wr (missing_4 - 1)) + r_5_4)) == 0))]) (O' := []) (by kernel_rfl) trivial (by kernel_rfl) (by kernel_rfl) ?_
      refine seqQ_norm ?_
      rcases itesome h with ⟨hb_8, h⟩ | ⟨hb_8, h⟩
      · refine Wp.condT (b := ((wr ((wr (missing_4 - 1)) + r_5_4)) == 0)) (by kernel_rfl) (by kernel_rfl) hb_8 ?_
        refine Wp.seqN (by kernel_rfl) ?_
        refine Wp.reg tiok mix hc (by kernel_rfl) (ah := none) (rs := [some (.no), some (.no), some (.no)]) (kt := [4]) (ko := []) (T' := [(4, .int .i64 (wr (i_5 + 1)))]) (O' := []) (by kernel_rfl) trivial (by kernel_rfl) (by kernel_rfl) ?_
        refine seqQ_norm ?_
        refine Wp.retN (by kernel_rfl) ?_
        refine blockQ_ret ?_
        refine seqQ_ret ?_
        refine loopQ_ret ?_
        obtain rfl := Option.some.inj h
        exact RetE.ret (fl := [true]) (by kernel_rfl)
      · refine Wp.condF (b := ((wr ((wr (missing_4 - 1)) + r_5_4)) == 0)) (by kernel_rfl) (by kernel_rfl) hb_8 ?_
        refine Wp.skipN (by kernel_rfl) ?_
        refine blockQ_norm ?_
        refine seqQ_norm ?_
        refine Wp.reg tiok mix hc (by kernel_rfl) (ah := none) (rs := [some (.no), some (.no), some (.no)]) (kt := [0, 5, 6]) (ko := []) (T' := [(0, .sl (List.map I ty0)), (5, .int .i64 (wr ((wr (missing_4 - 1)) + r_5_4))), (6, .int .i64 (wr (i_5 + 1)))]) (O' := []) (by kernel_rfl) trivial (by kernel_rfl) (by kernel_rfl) ?_
        refine loopQ_norm ?_
        exact (spec_l2End_l0_ih _ _ h c hc)
  · refine Wp.condF (b := (decide (i_5 < (ty0.length : Int)))) (by kernel_rfl) (by kernel_rfl) hb_6 ?_
    refine Wp.exitN (i := 0) (by kernel_rfl) ?_
    refine seqQ_exit ?_
    refine loopQ_exit ?_
    obtain rfl := Option.some.inj h
    exact Into.view (fun a w hv => SRx.renL [] hv (by kernel_rfl) (by kernel_rfl) (by kernel_rfl))
def spec_l2End (p : (List Int) × Int) : Option (Int) :=
  match p with
  | (ty0, at1) =>
    (spec_l2End_l0 (ty0, 1, at1)) >>= fun fl => match fl with
    | .inl () =>
      some (-1)
    | .inr r =>
      some r
def M_spec_l2End (p : (List Int) × Int) (r : Int) : Prop :=
  match p with
  | (ty0, at1) => FnSound Try.prog 135 [.sl (List.map I ty0), .int .i64 at1] (.int .i64 r) []
theorem spec_l2End_s : ∀ p r, spec_l2End p = some r → M_spec_l2End p r := by
  rintro ⟨ty0, at1⟩ r h
  unfold spec_l2End at h
  show FnSound Try.prog 135 [.sl (List.map I ty0), .int .i64 at1] (.int .i64 r) []
  refine FnSound.body0 tiok (fn := Try.f135) (code := B135) (by kernel_rfl) (by kernel_rfl) (by kernel_rfl) (by kernel_rfl) (nt := 30) (by kernel_rfl) (by kernel_rfl) (T := [(0, .sl (List.map I ty0)), (1, .int .i64 at1)]) (O := []) (by kernel_rfl) (by kernel_rfl) (fun c hc => ?_)
  refine Wp.seqN (by kernel_rfl) ?_
  refine Wp.reg tiok mix hc (by kernel_rfl) (ah := none) (rs := [some (.no)]) (kt := [0, 1]) (ko := []) (T' := [(0, .sl (List.map I ty0)), (1, .int .i64 at1)]) (O' := []) (by kernel_rfl) trivial (by kernel_rfl) (by kernel_rfl) ?_
  refine seqQ_norm ?_
  refine Wp.seqN (by kernel_rfl) ?_
  refine Wp.reg tiok mix hc (by kernel_rfl) (ah := none) (rs := [some (.no)]) (kt := [0, 1, 5]) (ko := []) (T' := [(0, .sl (List.map I ty0)), (1, .int .i64 at1), (5, .int .i64 1)]) (O' := []) (by kernel_rfl) trivial (by kernel_rfl) (by kernel_rfl) ?_
  refine seqQ_norm ?_
  refine Wp.seqN (by kernel_rfl) ?_
  refine Wp.seqN (by kernel_rfl) ?_
  refine Wp.reg tiok mix hc (by kernel_rfl) (ah := none) (rs := [some (.no), some (.no)]) (kt := [0, 5, 6]) (ko := []) (T' := [(0, .sl (List.map I ty0)), (5, .int .i64 1), (6, .int .i64 at1)]) (O' := []) (by kernel_rfl) trivial (by kernel_rfl) (by kernel_rfl) ?_
  refine seqQ_norm ?_
  refine Wp.blockN (i := 0) (by kernel_rfl) ?_
  obtain ⟨fl, hl_9, h⟩ := bsome h
  have hL := spec_l2End_l0_s _ _ hl_9 c hc
  refine Wp.loopN (by kernel_rfl) ?_
  rcases fl with ⟨⟩ | r
  · refine WpL.into (e := (.exit 0)) (mkS [] []) hL ?_
    refine blockQ_hit ?_
    refine seqQ_norm ?_
    refine Wp.seqN (by kernel_rfl) ?_
    refine Wp.reg tiok mix hc (by kernel_rfl) (ah := none) (rs := [some (.no)]) (kt := [4]) (ko := []) (T' := [(4, .int .i64 (-1))]) (O' := []) (by kernel_rfl) trivial (by kernel_rfl) (by kernel_rfl) ?_
    refine seqQ_norm ?_
    refine Wp.retN (by kernel_rfl) ?_
    obtain rfl := Option.some.inj h
    exact RetQ.ret (fl := [true]) (by kernel_rfl)
  · refine WpL.mono hL ?_
    rintro _ _ ⟨rfl, hfin⟩
    refine blockQ_ret ?_
    refine seqQ_ret ?_
    obtain rfl := Option.some.inj h
    exact ⟨.inl rfl, hfin⟩
def spec_l2Type (ty0 : (List Int)) : Option (Bool) :=
    (
      if (decide ((ty0.length : Int) ≤ 40)) = true then
        (spec_l2End (ty0, 0)) >>= fun r_1_5 =>
        if (r_1_5 == (ty0.length : Int)) = true then
          some ((decide ((ty0.length : Int) > 0)))
        else
          some (false)
      else
        some (false)
    ) >>= fun v_1 =>
    some v_1
def M_spec_l2Type (ty0 : (List Int)) (r : Bool) : Prop :=
  FnSound Try.prog 86 [.sl (List.map I ty0)] (.bool r) []
theorem spec_l2Type_s : ∀ p r, spec_l2Type p = some r → M_spec_l2Type p r := by
  rintro ty0 r h
  unfold spec_l2Type at h
  show FnSound Try.prog 86 [.sl (List.map I ty0)] (.bool r) []
  refine FnSound.body0 tiok (fn := Try.f86) (code := B86) (by kernel_rfl) (by kernel_rfl) (by kernel_rfl) (by kernel_rfl) (nt := 18) (by kernel_rfl) (by kernel_rfl) (T := [(0, .sl (List.map I ty0))]) (O := []) (by kernel_rfl) (by kernel_rfl) (fun c hc => ?_)
  refine Wp.seqN (by kernel_rfl) ?_
  refine Wp.reg tiok mix hc (by kernel_rfl) (ah := none) (rs := [some (.no)]) (kt := [0]) (ko := []) (T' := [(0, .sl (List.map I ty0))]) (O' := []) (by kernel_rfl) trivial (by kernel_rfl) (by kernel_rfl) ?_
  refine seqQ_norm ?_
  refine Wp.seqN (by kernel_rfl) ?_
  obtain ⟨v_1, hj_2, h⟩ := bsome h
  refine Wp.into (x := .normal) (mkS [(2, .bool v_1)] []) ?_ ?_
  · replace h := hj_2
    rcases itesome h with ⟨hb_1_0, h⟩ | ⟨hb_1_0, h⟩
    · obtain ⟨r_1_5, hr_1_5, h⟩ := bsome h
      rcases itesome h with ⟨hb_1_1, h⟩ | ⟨hb_1_1, h⟩
      · refine Wp.reg tiok mix hc (by kernel_rfl) (ah := none) (rs := [some (.no), some (.eqv (.no) ⟨[(4, .int .i64 (ty0.length : Int))], [], []⟩), some (.no), some (.no), some (.no), some (.call (.int .i64 r_1_5) [] 1), some (.no), some (.eqv (.no) ⟨[(10, .int .i64 (ty0.length : Int))], [], []⟩), some (.no), some (.cond true), some (.no), some (.no), some (.eqv (.no) ⟨[(15, .int .i64 (ty0.length : Int))], [], []⟩), some (.no), some (.cond true), some (.no)]) (kt := [2]) (ko := []) (T' := [(2, .bool (decide ((ty0.length : Int) > 0)))]) (O' := []) (by kernel_rfl) (And.intro (lenT (d := 4) I ty0) (And.intro hb_1_0 (And.intro hb_1_0 (And.intro (spec_l2End_s _ _ hr_1_5) (And.intro bod_135 (And.intro (Or.inl rfl : ([] : List Nat) = [] ∨ noSh (.int .i64 r_1_5) = true) (And.intro hb_1_0 (And.intro hb_1_0 (And.intro (lenT (d := 10) I ty0) (And.intro hb_1_0 (And.intro hb_1_0 (And.intro hb_1_1 (And.intro hb_1_1 (And.intro (lenT (d := 15) I ty0) (And.intro hb_1_1 (And.intro hb_1_1 trivial)))))))))))))))) (by kernel_rfl) (by kernel_rfl) ?_
        obtain rfl := Option.some.inj h
        exact Into.mk
      · refine Wp.reg tiok mix hc (by kernel_rfl) (ah := none) (rs := [some (.no), some (.eqv (.no) ⟨[(4, .int .i64 (ty0.length : Int))], [], []⟩), some (.no), some (.no), some (.no), some (.call (.int .i64 r_1_5) [] 1), some (.no), some (.eqv (.no) ⟨[(10, .int .i64 (ty0.length : Int))], [], []⟩), some (.no), some (.cond true), some (.no), none, none, none, some (.cond false), some (.no)]) (kt := [2]) (ko := []) (T' := [(2, .bool false)]) (O' := []) (by kernel_rfl) (And.intro (lenT (d := 4) I ty0) (And.intro hb_1_0 (And.intro hb_1_0 (And.intro (spec_l2End_s _ _ hr_1_5) (And.intro bod_135 (And.intro (Or.inl rfl : ([] : List Nat) = [] ∨ noSh (.int .i64 r_1_5) = true) (And.intro hb_1_0 (And.intro hb_1_0 (And.intro (lenT (d := 10) I ty0) (And.intro hb_1_0 (And.intro hb_1_0 (And.intro (neT hb_1_1 : (r_1_5 == (ty0.length : Int)) ≠ true) (And.intro (neT hb_1_1 : (r_1_5 == (ty0.length : Int)) ≠ true) (And.intro (neT hb_1_1 : (r_1_5 == (ty0.length : Int)) ≠ true) (And.intro hb_1_1 trivial))))))))))))))) (by kernel_rfl) (by kernel_rfl) ?_
        obtain rfl := Option.some.inj h
        exact Into.mk
    · refine Wp.reg tiok mix hc (by kernel_rfl) (ah := none) (rs := [some (.no), some (.eqv (.no) ⟨[(4, .int .i64 (ty0.length : Int))], [], []⟩), some (.no), some (.no), none, none, none, none, none, some (.cond false), some (.no), none, none, none, some (.cond false), some (.no)]) (kt := [2]) (ko := []) (T' := [(2, .bool false)]) (O' := []) (by kernel_rfl) (And.intro (lenT (d := 4) I ty0) (And.intro (neT hb_1_0 : (decide ((ty0.length : Int) ≤ 40)) ≠ true) (And.intro (neT hb_1_0 : (decide ((ty0.length : Int) ≤ 40)) ≠ true) (And.intro (neT hb_1_0 : (decide ((ty0.length : Int) ≤ 40)) ≠ true) (And.intro (neT hb_1_0 : (decide ((ty0.length : Int) ≤ 40)) ≠ true) (And.intro (neT hb_1_0 : (decide ((ty0.length : Int) ≤ 40)) ≠ true) (And.intro hb_1_0 (And.intro (neT (rfl : false = false) : false ≠ true) (And.intro (neT (rfl : false = false) : false ≠ true) (And.intro (neT (rfl : false = false) : false ≠ true) (And.intro (rfl : false = false) trivial))))))))))) (by kernel_rfl) (by kernel_rfl) ?_
      obtain rfl := Option.some.inj h
      exact Into.mk
  · clear hj_2
    refine seqQ_norm ?_
    refine Wp.retN (by kernel_rfl) ?_
    obtain rfl := Option.some.inj h
    exact RetQ.ret (fl := [true]) (by kernel_rfl)
def spec_l2Grade (c0 : Int) : Option (Int) :=
    if (decide (c0 ≥ 35)) = true then
      some (-1)
    else
      if (decide (c0 ≥ 19)) = true then
        some (wr (c0 - 19))
      else
        some (wr (c0 - 3))
def M_spec_l2Grade (c0 : Int) (r : Int) : Prop :=
  FnSound Try.prog 101 [.int .i64 c0] (.int .i64 r) []
theorem spec_l2Grade_s : ∀ p r, spec_l2Grade p = some r → M_spec_l2Grade p r := by
  rintro c0 r h
  unfold spec_l2Grade at h
  show FnSound Try.prog 101 [.int .i64 c0] (.int .i64 r) []
  refine FnSound.body0 tiok (fn := Try.f101) (code := B101) (by kernel_rfl) (by kernel_rfl) (by kernel_rfl) (by kernel_rfl) (nt := 13) (by kernel_rfl) (by kernel_rfl) (T := [(0, .int .i64 c0)]) (O := []) (by kernel_rfl) (by kernel_rfl) (fun c hc => ?_)
  refine Wp.seqN (by kernel_rfl) ?_
  refine Wp.reg tiok mix hc (by kernel_rfl) (ah := none) (rs := [some (.no)]) (kt := [0]) (ko := []) (T' := [(0, .int .i64 c0)]) (O' := []) (by kernel_rfl) trivial (by kernel_rfl) (by kernel_rfl) ?_
  refine seqQ_norm ?_
  refine Wp.seqN (by kernel_rfl) ?_
  refine Wp.blockN (i := 0) (by kernel_rfl) ?_
  refine Wp.seqN (by kernel_rfl) ?_
  refine Wp.reg tiok mix hc (by kernel_rfl) (ah := none) (rs := [some (.no), some (.no), some (.no)]) (kt := [0, 3]) (ko := []) (T' := [(0, .int .i64 c0), (3, .bool (decide (c0 ≥ 35)))]) (O' := []) (by kernel_rfl) trivial (by kernel_rfl) (by kernel_rfl) ?_
  refine seqQ_norm ?_
  rcases itesome h with ⟨hb_1, h⟩ | ⟨hb_1, h⟩
  · refine Wp.condT (b := (decide (c0 ≥ 35))) (by kernel_rfl) (by kernel_rfl) hb_1 ?_
    refine Wp.seqN (by kernel_rfl) ?_
    refine Wp.reg tiok mix hc (by kernel_rfl) (ah := none) (rs := [some (.no)]) (kt := [2]) (ko := []) (T' := [(2, .int .i64 (-1))]) (O' := []) (by kernel_rfl) trivial (by kernel_rfl) (by kernel_rfl) ?_
    refine seqQ_norm ?_
    refine Wp.retN (by kernel_rfl) ?_
    refine blockQ_ret ?_
    refine seqQ_ret ?_
    obtain rfl := Option.some.inj h
    exact RetQ.ret (fl := [true]) (by kernel_rfl)
  · refine Wp.condF (b := (decide (c0 ≥ 35))) (by kernel_rfl) (by kernel_rfl) hb_1 ?_
    refine Wp.seqN (by kernel_rfl) ?_
    refine Wp.reg tiok mix hc (by kernel_rfl) (ah := none) (rs := [some (.no), some (.no), some (.no)]) (kt := [0, 6]) (ko := []) (T' := [(0, .int .i64 c0), (6, .bool (decide (c0 ≥ 19)))]) (O' := []) (by kernel_rfl) trivial (by kernel_rfl) (by kernel_rfl) ?_
    refine seqQ_norm ?_
    rcases itesome h with ⟨hb_2, h⟩ | ⟨hb_2, h⟩
    · refine Wp.condT (b := (decide (c0 ≥ 19))) (by kernel_rfl) (by kernel_rfl) hb_2 ?_
      refine Wp.seqN (by kernel_rfl) ?_
      refine Wp.reg tiok mix hc (by kernel_rfl) (ah := none) (rs := [some (.no), some (.no), some (.no)]) (kt := [2]) (ko := []) (T' := [(2, .int .i64 (wr (c0 - 19)))]) (O' := []) (by kernel_rfl) trivial (by kernel_rfl) (by kernel_rfl) ?_
      refine seqQ_norm ?_
      refine Wp.retN (by kernel_rfl) ?_
      refine blockQ_ret ?_
      refine seqQ_ret ?_
      obtain rfl := Option.some.inj h
      exact RetQ.ret (fl := [true]) (by kernel_rfl)
    · refine Wp.condF (b := (decide (c0 ≥ 19))) (by kernel_rfl) (by kernel_rfl) hb_2 ?_
      refine Wp.skipN (by kernel_rfl) ?_
      refine blockQ_norm ?_
      refine seqQ_norm ?_
      refine Wp.seqN (by kernel_rfl) ?_
      refine Wp.reg tiok mix hc (by kernel_rfl) (ah := none) (rs := [some (.no), some (.no), some (.no)]) (kt := [2]) (ko := []) (T' := [(2, .int .i64 (wr (c0 - 3)))]) (O' := []) (by kernel_rfl) trivial (by kernel_rfl) (by kernel_rfl) ?_
      refine seqQ_norm ?_
      refine Wp.retN (by kernel_rfl) ?_
      obtain rfl := Option.some.inj h
      exact RetQ.ret (fl := [true]) (by kernel_rfl)
def spec_l2Graded_F1 (c : Ctx) (ty0 : List Int) (size1 : Int) (closed2 : Bool) (i_9 : Int) : (Unit) ⊕ (Bool) → Exit → AState → Prop
  | .inl _ => Into c .normal (mkS [(0, .sl (List.map I ty0)), (1, .int .i64 size1), (2, .bool closed2), (7, .int .i64 i_9)] [])
  | .inr r => RetE TIx Try.f87 [] (.bool r)
def spec_l2Graded_F2 (c : Ctx) : (Unit) ⊕ (Bool) → Exit → AState → Prop
  | .inl _ => Into c (.exit 0) (mkS [] [])
  | .inr r => RetE TIx Try.f87 [] (.bool r)
def spec_l2Graded_l0 (p : (List Int) × Int × Bool × Int) : Option ((Unit) ⊕ (Bool)) :=
  match p with
  | (ty0, size1, closed2, i_9) =>
    if (decide (i_9 < (ty0.length : Int))) = true then
      (
        (idx ty0 i_9) >>= fun e_4_2 =>
        (spec_l2Kids e_4_2) >>= fun r_4_4 =>
        if (decide (r_4_4 > 0)) = true then
          (idx ty0 i_9) >>= fun e_4_9 =>
          some ((decide (e_4_9 > 2)))
        else
          some (false)
      ) >>= fun v_11 =>
      ((
        if v_11 = true then
          (idx ty0 i_9) >>= fun e_5_2 =>
          (spec_l2Grade e_5_2) >>= fun r_5_4 =>
          (
            if (decide (r_5_4 ≥ size1)) = true then
              some (true)
            else
              if closed2 = true then
                some ((decide (r_5_4 < 0)))
              else
                some (false)
          ) >>= fun v_14 =>
          if v_14 = true then
            some (.inr false)
          else
            some (.inl ())
        else
          some (.inl ())) : Option ((Unit) ⊕ (Bool))) >>= fun fl => match fl with
      | .inl () =>
        spec_l2Graded_l0 (ty0, size1, closed2, (wr (i_9 + 1)))
      | .inr r =>
        some (.inr r)
    else
      some (.inl ())
  partial_fixpoint
def M_spec_l2Graded_l0 (p : (List Int) × Int × Bool × Int) (fl : (Unit) ⊕ (Bool)) : Prop :=
  match p with
  | (ty0, size1, closed2, i_9) => ∀ c : Ctx, c.nt = 43 → WpL Try.prog c (cl (cl (cr (cl (cr B87))))) (spec_l2Graded_F2 c fl) (mkS [(0, .sl (List.map I ty0)), (1, .int .i64 size1), (2, .bool closed2), (7, .int .i64 i_9)] [])
theorem spec_l2Graded_l0_s : ∀ p r, spec_l2Graded_l0 p = some r → M_spec_l2Graded_l0 p r := by
  refine spec_l2Graded_l0.partial_correctness M_spec_l2Graded_l0 ?_
  rintro spec_l2Graded_l0_f spec_l2Graded_l0_ih ⟨ty0, size1, closed2, i_9⟩ r h
  intro c hc
  show WpL Try.prog c (cl (cl (cr (cl (cr B87))))) (spec_l2Graded_F2 c r) (mkS [(0, .sl (List.map I ty0)), (1, .int .i64 size1), (2, .bool closed2), (7, .int .i64 i_9)] [])
  refine WpL.step ?_
  refine Wp.seqN (by kernel_rfl) ?_
  refine Wp.seqN (by kernel_rfl) ?_
  refine Wp.reg tiok mix hc (by kernel_rfl) (ah := none) (rs := [some (.no), some (.no), some (.eqv (.no) ⟨[(11, .int .i64 (ty0.length : Int))], [], []⟩), some (.no)]) (kt := [0, 1, 2, 7, 12]) (ko := []) (T' := [(0, .sl (List.map I ty0)), (1, .int .i64 size1), (2, .bool closed2), (7, .int .i64 i_9), (12, .bool (decide (i_9 < (ty0.length : Int))))]) (O' := []) (by kernel_rfl) (And.intro (lenT (d := 11) I ty0) trivial) (by kernel_rfl) (by kernel_rfl) ?_
  refine seqQ_norm ?_
  rcases itesome h with ⟨hb_10, h⟩ | ⟨hb_10, h⟩
  · refine Wp.condT (b := (decide (i_9 < (ty0.length : Int)))) (by kernel_rfl) (by kernel_rfl) hb_10 ?_
    refine Wp.skipN (by kernel_rfl) ?_
    refine seqQ_norm ?_
    refine Wp.seqN (by kernel_rfl) ?_
    refine Wp.blockN (i := 1) (by kernel_rfl) ?_
    refine Wp.seqN (by kernel_rfl) ?_
    obtain ⟨v_11, hj_12, h⟩ := bsome h
    refine Wp.into (x := .normal) (mkS [(0, .sl (List.map I ty0)), (1, .int .i64 size1), (2, .bool closed2), (7, .int .i64 i_9), (27, .bool v_11)] []) ?_ ?_
    · replace h := hj_12
      obtain ⟨e_4_2, hi_4_2, h⟩ := bsome h
      obtain ⟨r_4_4, hr_4_4, h⟩ := bsome h
      rcases itesome h with ⟨hb_4_0, h⟩ | ⟨hb_4_0, h⟩
      · obtain ⟨e_4_9, hi_4_9, h⟩ := bsome h
        refine Wp.reg tiok mix hc (by kernel_rfl) (ah := none) (rs := [some (.no), some (.no), some (.el (.int .i64 e_4_2)), some (.no), some (.call (.int .i64 r_4_4) [] 1), some (.no), some (.no), some (.no), some (.no), some (.el (.int .i64 e_4_9)), some (.no), some (.no), some (.cond true)]) (kt := [0, 1, 2, 7, 27]) (ko := []) (T' := [(0, .sl (List.map I ty0)), (1, .int .i64 size1), (2, .bool closed2), (7, .int .i64 i_9), (27, .bool (decide (e_4_9 > 2)))]) (O' := []) (by kernel_rfl) (And.intro (idx_sl (enc := I) (x := .int .i64 e_4_2) hi_4_2 (eq_I e_4_2)) (And.intro (spec_l2Kids_s _ _ hr_4_4) (And.intro bod_136 (And.intro (Or.inl rfl : ([] : List Nat) = [] ∨ noSh (.int .i64 r_4_4) = true) (And.intro hb_4_0 (And.intro hb_4_0 (And.intro hb_4_0 (And.intro (idx_sl (enc := I) (x := .int .i64 e_4_9) hi_4_9 (eq_I e_4_9)) (And.intro hb_4_0 (And.intro hb_4_0 (And.intro hb_4_0 trivial))))))))))) (by kernel_rfl) (by kernel_rfl) ?_
        obtain rfl := Option.some.inj h
        exact Into.mk
      · refine Wp.reg tiok mix hc (by kernel_rfl) (ah := none) (rs := [some (.no), some (.no), some (.el (.int .i64 e_4_2)), some (.no), some (.call (.int .i64 r_4_4) [] 1), some (.no), some (.no), none, none, none, none, none, some (.cond false)]) (kt := [0, 1, 2, 7, 27]) (ko := []) (T' := [(0, .sl (List.map I ty0)), (1, .int .i64 size1), (2, .bool closed2), (7, .int .i64 i_9), (27, .bool false)]) (O' := []) (by kernel_rfl) (And.intro (idx_sl (enc := I) (x := .int .i64 e_4_2) hi_4_2 (eq_I e_4_2)) (And.intro (spec_l2Kids_s _ _ hr_4_4) (And.intro bod_136 (And.intro (Or.inl rfl : ([] : List Nat) = [] ∨ noSh (.int .i64 r_4_4) = true) (And.intro (neT hb_4_0 : (decide (r_4_4 > 0)) ≠ true) (And.intro (neT hb_4_0 : (decide (r_4_4 > 0)) ≠ true) (And.intro (neT hb_4_0 : (decide (r_4_4 > 0)) ≠ true) (And.intro (neT hb_4_0 : (decide (r_4_4 > 0)) ≠ true) (And.intro (neT hb_4_0 : (decide (r_4_4 > 0)) ≠ true) (And.intro hb_4_0 trivial)))))))))) (by kernel_rfl) (by kernel_rfl) ?_
        obtain rfl := Option.some.inj h
        exact Into.mk
    · clear hj_12
      refine seqQ_norm ?_
      obtain ⟨fl, hj_17, h⟩ := bsome h
      have hF : Wp Try.prog c (cr (cl (cl (cr (cl (cl (cr (cl (cr B87))))))))) (spec_l2Graded_F1 c ty0 size1 closed2 i_9 fl) (mkS [(0, .sl (List.map I ty0)), (1, .int .i64 size1), (2, .bool closed2), (7, .int .i64 i_9), (27, .bool v_11)] []) := by
        replace h := hj_17
        rcases itesome h with ⟨hb_13, h⟩ | ⟨hb_13, h⟩
        · refine Wp.condT (b := v_11) (by kernel_rfl) (by kernel_rfl) hb_13 ?_
          refine Wp.seqN (by kernel_rfl) ?_
          obtain ⟨e_5_2, hi_5_2, h⟩ := bsome h
          obtain ⟨r_5_4, hr_5_4, h⟩ := bsome h
          refine Wp.reg tiok mix hc (by kernel_rfl) (ah := none) (rs := [some (.no), some (.no), some (.el (.int .i64 e_5_2)), some (.no), some (.call (.int .i64 r_5_4) [] 1), some (.no)]) (kt := [0, 1, 2, 7, 8]) (ko := []) (T' := [(0, .sl (List.map I ty0)), (1, .int .i64 size1), (2, .bool closed2), (7, .int .i64 i_9), (8, .int .i64 r_5_4)]) (O' := []) (by kernel_rfl) (And.intro (idx_sl (enc := I) (x := .int .i64 e_5_2) hi_5_2 (eq_I e_5_2)) (And.intro (spec_l2Grade_s _ _ hr_5_4) (And.intro bod_101 (And.intro (Or.inl rfl : ([] : List Nat) = [] ∨ noSh (.int .i64 r_5_4) = true) trivial)))) (by kernel_rfl) (by kernel_rfl) ?_
          refine seqQ_norm ?_
          refine Wp.seqN (by kernel_rfl) ?_
          obtain ⟨v_14, hj_15, h⟩ := bsome h
          refine Wp.into (x := .normal) (mkS [(0, .sl (List.map I ty0)), (1, .int .i64 size1), (2, .bool closed2), (7, .int .i64 i_9), (42, .bool v_14)] []) ?_ ?_
          · replace h := hj_15
            rcases itesome h with ⟨hb_6_0, h⟩ | ⟨hb_6_0, h⟩
            · refine Wp.reg tiok mix hc (by kernel_rfl) (ah := none) (rs := [some (.no), some (.no), some (.no), some (.no), none, none, none, none, none, some (.cond true)]) (kt := [0, 1, 2, 7, 42]) (ko := []) (T' := [(0, .sl (List.map I ty0)), (1, .int .i64 size1), (2, .bool closed2), (7, .int .i64 i_9), (42, .bool true)]) (O' := []) (by kernel_rfl) (And.intro (neF hb_6_0 : (decide (r_5_4 ≥ size1)) ≠ false) (And.intro (neF hb_6_0 : (decide (r_5_4 ≥ size1)) ≠ false) (And.intro (neF hb_6_0 : (decide (r_5_4 ≥ size1)) ≠ false) (And.intro hb_6_0 trivial)))) (by kernel_rfl) (by kernel_rfl) ?_
              obtain rfl := Option.some.inj h
              exact Into.mk
            · rcases itesome h with ⟨hb_6_1, h⟩ | ⟨hb_6_1, h⟩
              · refine Wp.reg tiok mix hc (by kernel_rfl) (ah := none) (rs := [some (.no), some (.no), some (.no), some (.no), some (.no), some (.no), some (.no), some (.no), some (.cond true), some (.cond false)]) (kt := [0, 1, 2, 7, 42]) (ko := []) (T' := [(0, .sl (List.map I ty0)), (1, .int .i64 size1), (2, .bool closed2), (7, .int .i64 i_9), (42, .bool (decide (r_5_4 < 0)))]) (O' := []) (by kernel_rfl) (And.intro hb_6_0 (And.intro hb_6_0 (And.intro hb_6_1 (And.intro hb_6_1 (And.intro hb_6_0 (And.intro hb_6_1 (And.intro hb_6_0 trivial))))))) (by kernel_rfl) (by kernel_rfl) ?_
                obtain rfl := Option.some.inj h
                exact Into.mk
              · refine Wp.reg tiok mix hc (by kernel_rfl) (ah := none) (rs := [some (.no), some (.no), some (.no), some (.no), some (.no), some (.no), none, none, some (.cond false), some (.cond false)]) (kt := [0, 1, 2, 7, 42]) (ko := []) (T' := [(0, .sl (List.map I ty0)), (1, .int .i64 size1), (2, .bool closed2), (7, .int .i64 i_9), (42, .bool false)]) (O' := []) (by kernel_rfl) (And.intro hb_6_0 (And.intro hb_6_0 (And.intro (neT hb_6_1 : closed2 ≠ true) (And.intro (neT hb_6_1 : closed2 ≠ true) (And.intro hb_6_0 (And.intro hb_6_1 (And.intro hb_6_0 trivial))))))) (by kernel_rfl) (by kernel_rfl) ?_
                obtain rfl := Option.some.inj h
                exact Into.mk
          · clear hj_15
            refine seqQ_norm ?_
            rcases itesome h with ⟨hb_16, h⟩ | ⟨hb_16, h⟩
            · refine Wp.condT (b := v_14) (by kernel_rfl) (by kernel_rfl) hb_16 ?_
              refine Wp.seqN (by kernel_rfl) ?_
              refine Wp.reg tiok mix hc (by kernel_rfl) (ah := none) (rs := [some (.no)]) (kt := [6]) (ko := []) (T' := [(6, .bool false)]) (O' := []) (by kernel_rfl) trivial (by kernel_rfl) (by kernel_rfl) ?_
              refine seqQ_norm ?_
              refine Wp.retN (by kernel_rfl) ?_
              obtain rfl := Option.some.inj h
              exact RetE.ret (fl := [true]) (by kernel_rfl)
            · refine Wp.condF (b := v_14) (by kernel_rfl) (by kernel_rfl) hb_16 ?_
              refine Wp.skipN (by kernel_rfl) ?_
              obtain rfl := Option.some.inj h
              exact Into.view (fun a w hv => SRx.renL [] hv (by kernel_rfl) (by kernel_rfl) (by kernel_rfl))
        · refine Wp.condF (b := v_11) (by kernel_rfl) (by kernel_rfl) hb_13 ?_
          refine Wp.skipN (by kernel_rfl) ?_
          obtain rfl := Option.some.inj h
          exact Into.view (fun a w hv => SRx.renL [] hv (by kernel_rfl) (by kernel_rfl) (by kernel_rfl))
      rcases fl with ⟨⟩ | r
      · refine Wp.into (x := .normal) (mkS [(0, .sl (List.map I ty0)), (1, .int .i64 size1), (2, .bool closed2), (7, .int .i64 i_9)] []) hF ?_
        refine blockQ_norm ?_
        refine seqQ_norm ?_
        refine Wp.reg tiok mix hc (by kernel_rfl) (ah := none) (rs := [some (.no), some (.no), some (.no)]) (kt := [0, 1, 2, 7]) (ko := []) (T' := [(0, .sl (List.map I ty0)), (1, .int .i64 size1), (2, .bool closed2), (7, .int .i64 (wr (i_9 + 1)))]) (O' := []) (by kernel_rfl) trivial (by kernel_rfl) (by kernel_rfl) ?_
        refine loopQ_norm ?_
        exact (spec_l2Graded_l0_ih _ _ h c hc)
      · refine Wp.mono hF ?_
        rintro _ _ ⟨rfl, hfin⟩
        refine blockQ_ret ?_
        refine seqQ_ret ?_
        refine loopQ_ret ?_
        obtain rfl := Option.some.inj h
        exact ⟨rfl, hfin⟩
  · refine Wp.condF (b := (decide (i_9 < (ty0.length : Int)))) (by kernel_rfl) (by kernel_rfl) hb_10 ?_
    refine Wp.exitN (i := 0) (by kernel_rfl) ?_
    refine seqQ_exit ?_
    refine loopQ_exit ?_
    obtain rfl := Option.some.inj h
    exact Into.view (fun a w hv => SRx.renL [] hv (by kernel_rfl) (by kernel_rfl) (by kernel_rfl))
def spec_l2Graded (p : (List Int) × Int × Bool) : Option (Bool) :=
  match p with
  | (ty0, size1, closed2) =>
    (spec_l2Graded_l0 (ty0, size1, closed2, 0)) >>= fun fl => match fl with
    | .inl () =>
      some true
    | .inr r =>
      some r
def M_spec_l2Graded (p : (List Int) × Int × Bool) (r : Bool) : Prop :=
  match p with
  | (ty0, size1, closed2) => FnSound Try.prog 87 [.sl (List.map I ty0), .int .i64 size1, .bool closed2] (.bool r) []
theorem spec_l2Graded_s : ∀ p r, spec_l2Graded p = some r → M_spec_l2Graded p r := by
  rintro ⟨ty0, size1, closed2⟩ r h
  unfold spec_l2Graded at h
  show FnSound Try.prog 87 [.sl (List.map I ty0), .int .i64 size1, .bool closed2] (.bool r) []
  refine FnSound.body0 tiok (fn := Try.f87) (code := B87) (by kernel_rfl) (by kernel_rfl) (by kernel_rfl) (by kernel_rfl) (nt := 43) (by kernel_rfl) (by kernel_rfl) (T := [(0, .sl (List.map I ty0)), (1, .int .i64 size1), (2, .bool closed2)]) (O := []) (by kernel_rfl) (by kernel_rfl) (fun c hc => ?_)
  refine Wp.seqN (by kernel_rfl) ?_
  refine Wp.reg tiok mix hc (by kernel_rfl) (ah := none) (rs := [some (.no)]) (kt := [0, 1, 2]) (ko := []) (T' := [(0, .sl (List.map I ty0)), (1, .int .i64 size1), (2, .bool closed2)]) (O' := []) (by kernel_rfl) trivial (by kernel_rfl) (by kernel_rfl) ?_
  refine seqQ_norm ?_
  refine Wp.seqN (by kernel_rfl) ?_
  refine Wp.seqN (by kernel_rfl) ?_
  refine Wp.reg tiok mix hc (by kernel_rfl) (ah := none) (rs := [some (.no)]) (kt := [0, 1, 2, 7]) (ko := []) (T' := [(0, .sl (List.map I ty0)), (1, .int .i64 size1), (2, .bool closed2), (7, .int .i64 0)]) (O' := []) (by kernel_rfl) trivial (by kernel_rfl) (by kernel_rfl) ?_
  refine seqQ_norm ?_
  refine Wp.blockN (i := 0) (by kernel_rfl) ?_
  obtain ⟨fl, hl_18, h⟩ := bsome h
  have hL := spec_l2Graded_l0_s _ _ hl_18 c hc
  refine Wp.loopN (by kernel_rfl) ?_
  rcases fl with ⟨⟩ | r
  · refine WpL.into (e := (.exit 0)) (mkS [] []) hL ?_
    refine blockQ_hit ?_
    refine seqQ_norm ?_
    refine Wp.seqN (by kernel_rfl) ?_
    refine Wp.reg tiok mix hc (by kernel_rfl) (ah := none) (rs := [some (.no)]) (kt := [6]) (ko := []) (T' := [(6, .bool true)]) (O' := []) (by kernel_rfl) trivial (by kernel_rfl) (by kernel_rfl) ?_
    refine seqQ_norm ?_
    refine Wp.retN (by kernel_rfl) ?_
    obtain rfl := Option.some.inj h
    exact RetQ.ret (fl := [true]) (by kernel_rfl)
  · refine WpL.mono hL ?_
    rintro _ _ ⟨rfl, hfin⟩
    refine blockQ_ret ?_
    refine seqQ_ret ?_
    obtain rfl := Option.some.inj h
    exact ⟨.inl rfl, hfin⟩
def spec_IsType (p : GSystem × (List Int)) : Option (Bool) :=
  match p with
  | (s0, ty1) =>
    (
      (spec_IsSystem s0) >>= fun r_1_1 =>
      if r_1_1 = true then
        (spec_l2Type ty1) >>= fun r_1_4 =>
        if r_1_4 = true then
          (spec_l2Graded (ty1, s0.fSize, true)) >>= fun r_1_10 =>
          some (r_1_10)
        else
          some (false)
      else
        some (false)
    ) >>= fun v_1 =>
    some v_1
def M_spec_IsType (p : GSystem × (List Int)) (r : Bool) : Prop :=
  match p with
  | (s0, ty1) => FnSound Try.prog 44 [.agg [.int .i64 s0.fSize, .sl (List.map I s0.fPlus), .sl (List.map I s0.fTimes), .sl (List.map AV.bool s0.fBelow)], .sl (List.map I ty1)] (.bool r) []
theorem spec_IsType_s : ∀ p r, spec_IsType p = some r → M_spec_IsType p r := by
  rintro ⟨s0, ty1⟩ r h
  unfold spec_IsType at h
  show FnSound Try.prog 44 [.agg [.int .i64 s0.fSize, .sl (List.map I s0.fPlus), .sl (List.map I s0.fTimes), .sl (List.map AV.bool s0.fBelow)], .sl (List.map I ty1)] (.bool r) []
  refine FnSound.body0 tiok (fn := Try.f44) (code := B44) (by kernel_rfl) (by kernel_rfl) (by kernel_rfl) (by kernel_rfl) (nt := 17) (by kernel_rfl) (by kernel_rfl) (T := [(0, .agg [.int .i64 s0.fSize, .sl (List.map I s0.fPlus), .sl (List.map I s0.fTimes), .sl (List.map AV.bool s0.fBelow)]), (1, .sl (List.map I ty1))]) (O := []) (by kernel_rfl) (by kernel_rfl) (fun c hc => ?_)
  refine Wp.seqN (by kernel_rfl) ?_
  refine Wp.reg tiok mix hc (by kernel_rfl) (ah := none) (rs := [some (.new 1), some (.no)]) (kt := [1, 2]) (ko := [1]) (T' := [(1, .sl (List.map I ty1)), (2, .ra 1 0)]) (O' := [(1, .box [.int .i64 s0.fSize, .sl (List.map I s0.fPlus), .sl (List.map I s0.fTimes), .sl (List.map AV.bool s0.fBelow)])]) (by kernel_rfl) trivial (by kernel_rfl) (by kernel_rfl) ?_
  refine seqQ_norm ?_
  refine Wp.seqN (by kernel_rfl) ?_
  obtain ⟨v_1, hj_2, h⟩ := bsome h
  refine Wp.into (x := .normal) (mkS [(4, .bool v_1)] []) ?_ ?_
  · replace h := hj_2
    obtain ⟨r_1_1, hr_1_1, h⟩ := bsome h
    rcases itesome h with ⟨hb_1_0, h⟩ | ⟨hb_1_0, h⟩
    · obtain ⟨r_1_4, hr_1_4, h⟩ := bsome h
      rcases itesome h with ⟨hb_1_1, h⟩ | ⟨hb_1_1, h⟩
      · obtain ⟨r_1_10, hr_1_10, h⟩ := bsome h
        refine Wp.reg tiok mix hc (by kernel_rfl) (ah := none) (rs := [some (.no), some (.call (.bool r_1_1) [] 1), some (.no), some (.no), some (.call (.bool r_1_4) [] 1), some (.cond true), some (.no), some (.no), some (.no), some (.no), some (.call (.bool r_1_10) [] 1), some (.cond true), some (.no)]) (kt := [4]) (ko := []) (T' := [(4, .bool r_1_10)]) (O' := []) (by kernel_rfl) (And.intro (spec_IsSystem_s _ _ hr_1_1) (And.intro bod_98 (And.intro (Or.inl rfl : ([] : List Nat) = [] ∨ noSh (.bool r_1_1) = true) (And.intro hb_1_0 (And.intro hb_1_0 (And.intro (spec_l2Type_s _ _ hr_1_4) (And.intro bod_86 (And.intro (Or.inl rfl : ([] : List Nat) = [] ∨ noSh (.bool r_1_4) = true) (And.intro hb_1_0 (And.intro hb_1_1 (And.intro hb_1_1 (And.intro hb_1_1 (And.intro hb_1_1 (And.intro (spec_l2Graded_s _ _ hr_1_10) (And.intro bod_87 (And.intro (Or.inl rfl : ([] : List Nat) = [] ∨ noSh (.bool r_1_10) = true) (And.intro hb_1_1 trivial))))))))))))))))) (by kernel_rfl) (by kernel_rfl) ?_
        obtain rfl := Option.some.inj h
        exact Into.mk
      · refine Wp.reg tiok mix hc (by kernel_rfl) (ah := none) (rs := [some (.no), some (.call (.bool r_1_1) [] 1), some (.no), some (.no), some (.call (.bool r_1_4) [] 1), some (.cond true), some (.no), none, none, none, none, some (.cond false), some (.no)]) (kt := [4]) (ko := []) (T' := [(4, .bool false)]) (O' := []) (by kernel_rfl) (And.intro (spec_IsSystem_s _ _ hr_1_1) (And.intro bod_98 (And.intro (Or.inl rfl : ([] : List Nat) = [] ∨ noSh (.bool r_1_1) = true) (And.intro hb_1_0 (And.intro hb_1_0 (And.intro (spec_l2Type_s _ _ hr_1_4) (And.intro bod_86 (And.intro (Or.inl rfl : ([] : List Nat) = [] ∨ noSh (.bool r_1_4) = true) (And.intro hb_1_0 (And.intro (neT hb_1_1 : r_1_4 ≠ true) (And.intro (neT hb_1_1 : r_1_4 ≠ true) (And.intro (neT hb_1_1 : r_1_4 ≠ true) (And.intro (neT hb_1_1 : r_1_4 ≠ true) (And.intro hb_1_1 trivial)))))))))))))) (by kernel_rfl) (by kernel_rfl) ?_
        obtain rfl := Option.some.inj h
        exact Into.mk
    · refine Wp.reg tiok mix hc (by kernel_rfl) (ah := none) (rs := [some (.no), some (.call (.bool r_1_1) [] 1), some (.no), none, none, some (.cond false), some (.no), none, none, none, none, some (.cond false), some (.no)]) (kt := [4]) (ko := []) (T' := [(4, .bool false)]) (O' := []) (by kernel_rfl) (And.intro (spec_IsSystem_s _ _ hr_1_1) (And.intro bod_98 (And.intro (Or.inl rfl : ([] : List Nat) = [] ∨ noSh (.bool r_1_1) = true) (And.intro (neT hb_1_0 : r_1_1 ≠ true) (And.intro (neT hb_1_0 : r_1_1 ≠ true) (And.intro hb_1_0 (And.intro (neT (rfl : false = false) : false ≠ true) (And.intro (neT (rfl : false = false) : false ≠ true) (And.intro (neT (rfl : false = false) : false ≠ true) (And.intro (neT (rfl : false = false) : false ≠ true) (And.intro (rfl : false = false) trivial))))))))))) (by kernel_rfl) (by kernel_rfl) ?_
      obtain rfl := Option.some.inj h
      exact Into.mk
  · clear hj_2
    refine seqQ_norm ?_
    refine Wp.retN (by kernel_rfl) ?_
    obtain rfl := Option.some.inj h
    exact RetQ.ret (fl := [true]) (by kernel_rfl)
def spec_l2Data_F1 (c : Ctx) : (Unit) ⊕ (Bool) → Exit → AState → Prop
  | .inl _ => Into c (.exit 0) (mkS [] [])
  | .inr r => RetE TIx Try.f121 [] (.bool r)
def spec_l2Data_l0 (p : (List Int) × Int) : Option ((Unit) ⊕ (Bool)) :=
  match p with
  | (ty0, i_3) =>
    if (decide (i_3 < (ty0.length : Int))) = true then
      (idx ty0 i_3) >>= fun e_4_2 =>
      (spec_l2Arrow e_4_2) >>= fun r_4_4 =>
      if r_4_4 = true then
        some (.inr false)
      else
        spec_l2Data_l0 (ty0, (wr (i_3 + 1)))
    else
      some (.inl ())
  partial_fixpoint
def M_spec_l2Data_l0 (p : (List Int) × Int) (fl : (Unit) ⊕ (Bool)) : Prop :=
  match p with
  | (ty0, i_3) => ∀ c : Ctx, c.nt = 15 → WpL Try.prog c (cl (cl (cr (cl (cr B121))))) (spec_l2Data_F1 c fl) (mkS [(0, .sl (List.map I ty0)), (3, .int .i64 i_3)] [])
theorem spec_l2Data_l0_s : ∀ p r, spec_l2Data_l0 p = some r → M_spec_l2Data_l0 p r := by
  refine spec_l2Data_l0.partial_correctness M_spec_l2Data_l0 ?_
  rintro spec_l2Data_l0_f spec_l2Data_l0_ih ⟨ty0, i_3⟩ r h
  intro c hc
  show WpL Try.prog c (cl (cl (cr (cl (cr B121))))) (spec_l2Data_F1 c r) (mkS [(0, .sl (List.map I ty0)), (3, .int .i64 i_3)] [])
  refine WpL.step ?_
  refine Wp.seqN (by kernel_rfl) ?_
  refine Wp.seqN (by kernel_rfl) ?_
  refine Wp.reg tiok mix hc (by kernel_rfl) (ah := none) (rs := [some (.no), some (.no), some (.eqv (.no) ⟨[(6, .int .i64 (ty0.length : Int))], [], []⟩), some (.no)]) (kt := [0, 3, 7]) (ko := []) (T' := [(0, .sl (List.map I ty0)), (3, .int .i64 i_3), (7, .bool (decide (i_3 < (ty0.length : Int))))]) (O' := []) (by kernel_rfl) (And.intro (lenT (d := 6) I ty0) trivial) (by kernel_rfl) (by kernel_rfl) ?_
  refine seqQ_norm ?_
  rcases itesome h with ⟨hb_4, h⟩ | ⟨hb_4, h⟩
  · refine Wp.condT (b := (decide (i_3 < (ty0.length : Int)))) (by kernel_rfl) (by kernel_rfl) hb_4 ?_
    refine Wp.skipN (by kernel_rfl) ?_
    refine seqQ_norm ?_
    refine Wp.seqN (by kernel_rfl) ?_
    refine Wp.blockN (i := 1) (by kernel_rfl) ?_
    refine Wp.seqN (by kernel_rfl) ?_
    obtain ⟨e_4_2, hi_4_2, h⟩ := bsome h
    obtain ⟨r_4_4, hr_4_4, h⟩ := bsome h
    refine Wp.reg tiok mix hc (by kernel_rfl) (ah := none) (rs := [some (.no), some (.no), some (.el (.int .i64 e_4_2)), some (.no), some (.call (.bool r_4_4) [] 1)]) (kt := [0, 3, 14]) (ko := []) (T' := [(0, .sl (List.map I ty0)), (3, .int .i64 i_3), (14, .bool r_4_4)]) (O' := []) (by kernel_rfl) (And.intro (idx_sl (enc := I) (x := .int .i64 e_4_2) hi_4_2 (eq_I e_4_2)) (And.intro (spec_l2Arrow_s _ _ hr_4_4) (And.intro bod_158 (And.intro (Or.inl rfl : ([] : List Nat) = [] ∨ noSh (.bool r_4_4) = true) trivial)))) (by kernel_rfl) (by kernel_rfl) ?_
    refine seqQ_norm ?_
    rcases itesome h with ⟨hb_5, h⟩ | ⟨hb_5, h⟩
    · refine Wp.condT (b := r_4_4) (by kernel_rfl) (by kernel_rfl) hb_5 ?_
      refine Wp.seqN (by kernel_rfl) ?_
      refine Wp.reg tiok mix hc (by kernel_rfl) (ah := none) (rs := [some (.no)]) (kt := [2]) (ko := []) (T' := [(2, .bool false)]) (O' := []) (by kernel_rfl) trivial (by kernel_rfl) (by kernel_rfl) ?_
      refine seqQ_norm ?_
      refine Wp.retN (by kernel_rfl) ?_
      refine blockQ_ret ?_
      refine seqQ_ret ?_
      refine loopQ_ret ?_
      obtain rfl := Option.some.inj h
      exact RetE.ret (fl := [true]) (by kernel_rfl)
    · refine Wp.condF (b := r_4_4) (by kernel_rfl) (by kernel_rfl) hb_5 ?_
      refine Wp.skipN (by kernel_rfl) ?_
      refine blockQ_norm ?_
      refine seqQ_norm ?_
      refine Wp.reg tiok mix hc (by kernel_rfl) (ah := none) (rs := [some (.no), some (.no), some (.no)]) (kt := [0, 3]) (ko := []) (T' := [(0, .sl (List.map I ty0)), (3, .int .i64 (wr (i_3 + 1)))]) (O' := []) (by kernel_rfl) trivial (by kernel_rfl) (by kernel_rfl) ?_
      refine loopQ_norm ?_
      exact (spec_l2Data_l0_ih _ _ h c hc)
  · refine Wp.condF (b := (decide (i_3 < (ty0.length : Int)))) (by kernel_rfl) (by kernel_rfl) hb_4 ?_
    refine Wp.exitN (i := 0) (by kernel_rfl) ?_
    refine seqQ_exit ?_
    refine loopQ_exit ?_
    obtain rfl := Option.some.inj h
    exact Into.view (fun a w hv => SRx.renL [] hv (by kernel_rfl) (by kernel_rfl) (by kernel_rfl))
def spec_l2Data (ty0 : (List Int)) : Option (Bool) :=
    (spec_l2Data_l0 (ty0, 0)) >>= fun fl => match fl with
    | .inl () =>
      some true
    | .inr r =>
      some r
def M_spec_l2Data (ty0 : (List Int)) (r : Bool) : Prop :=
  FnSound Try.prog 121 [.sl (List.map I ty0)] (.bool r) []
theorem spec_l2Data_s : ∀ p r, spec_l2Data p = some r → M_spec_l2Data p r := by
  rintro ty0 r h
  unfold spec_l2Data at h
  show FnSound Try.prog 121 [.sl (List.map I ty0)] (.bool r) []
  refine FnSound.body0 tiok (fn := Try.f121) (code := B121) (by kernel_rfl) (by kernel_rfl) (by kernel_rfl) (by kernel_rfl) (nt := 15) (by kernel_rfl) (by kernel_rfl) (T := [(0, .sl (List.map I ty0))]) (O := []) (by kernel_rfl) (by kernel_rfl) (fun c hc => ?_)
  refine Wp.seqN (by kernel_rfl) ?_
  refine Wp.reg tiok mix hc (by kernel_rfl) (ah := none) (rs := [some (.no)]) (kt := [0]) (ko := []) (T' := [(0, .sl (List.map I ty0))]) (O' := []) (by kernel_rfl) trivial (by kernel_rfl) (by kernel_rfl) ?_
  refine seqQ_norm ?_
  refine Wp.seqN (by kernel_rfl) ?_
  refine Wp.seqN (by kernel_rfl) ?_
  refine Wp.reg tiok mix hc (by kernel_rfl) (ah := none) (rs := [some (.no)]) (kt := [0, 3]) (ko := []) (T' := [(0, .sl (List.map I ty0)), (3, .int .i64 0)]) (O' := []) (by kernel_rfl) trivial (by kernel_rfl) (by kernel_rfl) ?_
  refine seqQ_norm ?_
  refine Wp.blockN (i := 0) (by kernel_rfl) ?_
  obtain ⟨fl, hl_6, h⟩ := bsome h
  have hL := spec_l2Data_l0_s _ _ hl_6 c hc
  refine Wp.loopN (by kernel_rfl) ?_
  rcases fl with ⟨⟩ | r
  · refine WpL.into (e := (.exit 0)) (mkS [] []) hL ?_
    refine blockQ_hit ?_
    refine seqQ_norm ?_
    refine Wp.seqN (by kernel_rfl) ?_
    refine Wp.reg tiok mix hc (by kernel_rfl) (ah := none) (rs := [some (.no)]) (kt := [2]) (ko := []) (T' := [(2, .bool true)]) (O' := []) (by kernel_rfl) trivial (by kernel_rfl) (by kernel_rfl) ?_
    refine seqQ_norm ?_
    refine Wp.retN (by kernel_rfl) ?_
    obtain rfl := Option.some.inj h
    exact RetQ.ret (fl := [true]) (by kernel_rfl)
  · refine WpL.mono hL ?_
    rintro _ _ ⟨rfl, hfin⟩
    refine blockQ_ret ?_
    refine seqQ_ret ?_
    obtain rfl := Option.some.inj h
    exact ⟨.inl rfl, hfin⟩
def spec_IsData (p : GSystem × (List Int)) : Option (Bool) :=
  match p with
  | (s0, ty1) =>
    (
      (spec_IsType (s0, ty1)) >>= fun r_1_2 =>
      if r_1_2 = true then
        (spec_l2Data ty1) >>= fun r_1_5 =>
        some (r_1_5)
      else
        some (false)
    ) >>= fun v_1 =>
    some v_1
def M_spec_IsData (p : GSystem × (List Int)) (r : Bool) : Prop :=
  match p with
  | (s0, ty1) => FnSound Try.prog 72 [.agg [.int .i64 s0.fSize, .sl (List.map I s0.fPlus), .sl (List.map I s0.fTimes), .sl (List.map AV.bool s0.fBelow)], .sl (List.map I ty1)] (.bool r) []
theorem spec_IsData_s : ∀ p r, spec_IsData p = some r → M_spec_IsData p r := by
  rintro ⟨s0, ty1⟩ r h
  unfold spec_IsData at h
  show FnSound Try.prog 72 [.agg [.int .i64 s0.fSize, .sl (List.map I s0.fPlus), .sl (List.map I s0.fTimes), .sl (List.map AV.bool s0.fBelow)], .sl (List.map I ty1)] (.bool r) []
  refine FnSound.body0 tiok (fn := Try.f72) (code := B72) (by kernel_rfl) (by kernel_rfl) (by kernel_rfl) (by kernel_rfl) (nt := 12) (by kernel_rfl) (by kernel_rfl) (T := [(0, .agg [.int .i64 s0.fSize, .sl (List.map I s0.fPlus), .sl (List.map I s0.fTimes), .sl (List.map AV.bool s0.fBelow)]), (1, .sl (List.map I ty1))]) (O := []) (by kernel_rfl) (by kernel_rfl) (fun c hc => ?_)
  refine Wp.seqN (by kernel_rfl) ?_
  refine Wp.reg tiok mix hc (by kernel_rfl) (ah := none) (rs := [some (.new 1), some (.no)]) (kt := [1, 2]) (ko := [1]) (T' := [(1, .sl (List.map I ty1)), (2, .ra 1 0)]) (O' := [(1, .box [.int .i64 s0.fSize, .sl (List.map I s0.fPlus), .sl (List.map I s0.fTimes), .sl (List.map AV.bool s0.fBelow)])]) (by kernel_rfl) trivial (by kernel_rfl) (by kernel_rfl) ?_
  refine seqQ_norm ?_
  refine Wp.seqN (by kernel_rfl) ?_
  obtain ⟨v_1, hj_2, h⟩ := bsome h
  refine Wp.into (x := .normal) (mkS [(4, .bool v_1)] []) ?_ ?_
  · replace h := hj_2
    obtain ⟨r_1_2, hr_1_2, h⟩ := bsome h
    rcases itesome h with ⟨hb_1_0, h⟩ | ⟨hb_1_0, h⟩
    · obtain ⟨r_1_5, hr_1_5, h⟩ := bsome h
      refine Wp.reg tiok mix hc (by kernel_rfl) (ah := none) (rs := [some (.no), some (.no), some (.call (.bool r_1_2) [] 1), some (.no), some (.no), some (.call (.bool r_1_5) [] 1), some (.cond true), some (.no)]) (kt := [4]) (ko := []) (T' := [(4, .bool r_1_5)]) (O' := []) (by kernel_rfl) (And.intro (spec_IsType_s _ _ hr_1_2) (And.intro bod_44 (And.intro (Or.inl rfl : ([] : List Nat) = [] ∨ noSh (.bool r_1_2) = true) (And.intro hb_1_0 (And.intro hb_1_0 (And.intro (spec_l2Data_s _ _ hr_1_5) (And.intro bod_121 (And.intro (Or.inl rfl : ([] : List Nat) = [] ∨ noSh (.bool r_1_5) = true) (And.intro hb_1_0 trivial))))))))) (by kernel_rfl) (by kernel_rfl) ?_
      obtain rfl := Option.some.inj h
      exact Into.mk
    · refine Wp.reg tiok mix hc (by kernel_rfl) (ah := none) (rs := [some (.no), some (.no), some (.call (.bool r_1_2) [] 1), some (.no), none, none, some (.cond false), some (.no)]) (kt := [4]) (ko := []) (T' := [(4, .bool false)]) (O' := []) (by kernel_rfl) (And.intro (spec_IsType_s _ _ hr_1_2) (And.intro bod_44 (And.intro (Or.inl rfl : ([] : List Nat) = [] ∨ noSh (.bool r_1_2) = true) (And.intro (neT hb_1_0 : r_1_2 ≠ true) (And.intro (neT hb_1_0 : r_1_2 ≠ true) (And.intro hb_1_0 trivial)))))) (by kernel_rfl) (by kernel_rfl) ?_
      obtain rfl := Option.some.inj h
      exact Into.mk
  · clear hj_2
    refine seqQ_norm ?_
    refine Wp.retN (by kernel_rfl) ?_
    obtain rfl := Option.some.inj h
    exact RetQ.ret (fl := [true]) (by kernel_rfl)
def spec_l2Left_F1 (c : Ctx) : Int → Exit → AState → Prop
  | left_9 => Into c (.exit 0) (mkS [(1, .int .i64 left_9)] [])
mutual
def spec_l2Left (p : GTerm × Int) : Option (Int) :=
  match p with
  | (t0, left1) =>
    (spec_l2Left_l0 (t0, (wr (left1 - 1)), 0)) >>= fun left_9 =>
    some left_9
  partial_fixpoint
def spec_l2Left_l0 (p : GTerm × Int × Int) : Option (Int) :=
  match p with
  | (t0, left_4, k_5) =>
    (
      if (decide (k_5 < (t0.fKids.length : Int))) = true then
        some ((decide (left_4 ≥ 0)))
      else
        some (false)
    ) >>= fun v_6 =>
    if v_6 = true then
      (idx t0.fKids k_5) >>= fun e_5_3 =>
      (spec_l2Left (e_5_3, left_4)) >>= fun r_5_6 =>
      spec_l2Left_l0 (t0, r_5_6, (wr (k_5 + 1)))
    else
      some (left_4)
  partial_fixpoint
end
def M_spec_l2Left (p : GTerm × Int) (r : Int) : Prop :=
  match p with
  | (t0, left1) => FnSound Try.prog 84 [.agg [.int .i64 t0.fOp, .int .i64 t0.fN, .sl (List.map I t0.fType), .sl (List.map GTerm_S t0.fKids)], .int .i64 left1] (.int .i64 r) []
def M_spec_l2Left_l0 (p : GTerm × Int × Int) (fl : Int) : Prop :=
  match p with
  | (t0, left_4, k_5) => ∀ c : Ctx, c.nt = 27 → WpL Try.prog c (cl (cl (cr (cl (cr (cr B84)))))) (spec_l2Left_F1 c fl) (mkS [(1, .int .i64 left_4), (2, .ra 1 0), (5, .int .i64 k_5)] [(1, .box [.int .i64 t0.fOp, .int .i64 t0.fN, .sl (List.map I t0.fType), .sl (List.map GTerm_S t0.fKids)])])
theorem spec_l2Left_all : (∀ p r, spec_l2Left p = some r → M_spec_l2Left p r) ∧ (∀ p r, spec_l2Left_l0 p = some r → M_spec_l2Left_l0 p r) := by
  refine spec_l2Left.mutual_partial_correctness M_spec_l2Left M_spec_l2Left_l0 ?_ ?_
  · rintro spec_l2Left_l0_f spec_l2Left_l0_ih ⟨t0, left1⟩ r h
    show FnSound Try.prog 84 [.agg [.int .i64 t0.fOp, .int .i64 t0.fN, .sl (List.map I t0.fType), .sl (List.map GTerm_S t0.fKids)], .int .i64 left1] (.int .i64 r) []
    refine FnSound.body0 tiok (fn := Try.f84) (code := B84) (by kernel_rfl) (by kernel_rfl) (by kernel_rfl) (by kernel_rfl) (nt := 27) (by kernel_rfl) (by kernel_rfl) (T := [(0, .agg [.int .i64 t0.fOp, .int .i64 t0.fN, .sl (List.map I t0.fType), .sl (List.map GTerm_S t0.fKids)]), (1, .int .i64 left1)]) (O := []) (by kernel_rfl) (by kernel_rfl) (fun c hc => ?_)
    refine Wp.seqN (by kernel_rfl) ?_
    refine Wp.reg tiok mix hc (by kernel_rfl) (ah := none) (rs := [some (.new 1), some (.no)]) (kt := [1, 2]) (ko := [1]) (T' := [(1, .int .i64 left1), (2, .ra 1 0)]) (O' := [(1, .box [.int .i64 t0.fOp, .int .i64 t0.fN, .sl (List.map I t0.fType), .sl (List.map GTerm_S t0.fKids)])]) (by kernel_rfl) trivial (by kernel_rfl) (by kernel_rfl) ?_
    refine seqQ_norm ?_
    refine Wp.seqN (by kernel_rfl) ?_
    refine Wp.reg tiok mix hc (by kernel_rfl) (ah := none) (rs := [some (.no), some (.no), some (.no)]) (kt := [1, 2]) (ko := [1]) (T' := [(1, .int .i64 (wr (left1 - 1))), (2, .ra 1 0)]) (O' := [(1, .box [.int .i64 t0.fOp, .int .i64 t0.fN, .sl (List.map I t0.fType), .sl (List.map GTerm_S t0.fKids)])]) (by kernel_rfl) trivial (by kernel_rfl) (by kernel_rfl) ?_
    refine seqQ_norm ?_
    refine Wp.seqN (by kernel_rfl) ?_
    refine Wp.seqN (by kernel_rfl) ?_
    refine Wp.reg tiok mix hc (by kernel_rfl) (ah := none) (rs := [some (.no)]) (kt := [1, 2, 5]) (ko := [1]) (T' := [(1, .int .i64 (wr (left1 - 1))), (2, .ra 1 0), (5, .int .i64 0)]) (O' := [(1, .box [.int .i64 t0.fOp, .int .i64 t0.fN, .sl (List.map I t0.fType), .sl (List.map GTerm_S t0.fKids)])]) (by kernel_rfl) trivial (by kernel_rfl) (by kernel_rfl) ?_
    refine seqQ_norm ?_
    refine Wp.blockN (i := 0) (by kernel_rfl) ?_
    obtain ⟨left_9, hl_10, h⟩ := bsome h
    have hL := spec_l2Left_l0_ih _ _ hl_10 c hc
    refine Wp.loopN (by kernel_rfl) ?_
    · refine WpL.into (e := (.exit 0)) (mkS [(1, .int .i64 left_9)] []) hL ?_
      refine blockQ_hit ?_
      refine seqQ_norm ?_
      refine Wp.seqN (by kernel_rfl) ?_
      refine Wp.reg tiok mix hc (by kernel_rfl) (ah := none) (rs := [some (.no), some (.no)]) (kt := [4]) (ko := []) (T' := [(4, .int .i64 left_9)]) (O' := []) (by kernel_rfl) trivial (by kernel_rfl) (by kernel_rfl) ?_
      refine seqQ_norm ?_
      refine Wp.retN (by kernel_rfl) ?_
      obtain rfl := Option.some.inj h
      exact RetQ.ret (fl := [true]) (by kernel_rfl)
  · rintro spec_l2Left_f spec_l2Left_l0_f spec_l2Left_ih spec_l2Left_l0_ih ⟨t0, left_4, k_5⟩ r h
    intro c hc
    show WpL Try.prog c (cl (cl (cr (cl (cr (cr B84)))))) (spec_l2Left_F1 c r) (mkS [(1, .int .i64 left_4), (2, .ra 1 0), (5, .int .i64 k_5)] [(1, .box [.int .i64 t0.fOp, .int .i64 t0.fN, .sl (List.map I t0.fType), .sl (List.map GTerm_S t0.fKids)])])
    refine WpL.step ?_
    refine Wp.seqN (by kernel_rfl) ?_
    refine Wp.seqN (by kernel_rfl) ?_
    obtain ⟨v_6, hj_7, h⟩ := bsome h
    refine Wp.into (x := .normal) (mkS [(1, .int .i64 left_4), (2, .ra 1 0), (5, .int .i64 k_5), (16, .bool v_6)] [(1, .box [.int .i64 t0.fOp, .int .i64 t0.fN, .sl (List.map I t0.fType), .sl (List.map GTerm_S t0.fKids)])]) ?_ ?_
    · replace h := hj_7
      rcases itesome h with ⟨hb_3_0, h⟩ | ⟨hb_3_0, h⟩
      · refine Wp.reg tiok mix hc (by kernel_rfl) (ah := none) (rs := [some (.no), some (.no), some (.no), some (.eqv (.no) ⟨[(11, .int .i64 (t0.fKids.length : Int))], [], []⟩), some (.no), some (.no), some (.no), some (.no), some (.cond true)]) (kt := [1, 2, 5, 16]) (ko := [1]) (T' := [(1, .int .i64 left_4), (2, .ra 1 0), (5, .int .i64 k_5), (16, .bool (decide (left_4 ≥ 0)))]) (O' := [(1, .box [.int .i64 t0.fOp, .int .i64 t0.fN, .sl (List.map I t0.fType), .sl (List.map GTerm_S t0.fKids)])]) (by kernel_rfl) (And.intro (lenT (d := 11) GTerm_S t0.fKids) (And.intro hb_3_0 (And.intro hb_3_0 (And.intro hb_3_0 trivial)))) (by kernel_rfl) (by kernel_rfl) ?_
        obtain rfl := Option.some.inj h
        exact Into.mk
      · refine Wp.reg tiok mix hc (by kernel_rfl) (ah := none) (rs := [some (.no), some (.no), some (.no), some (.eqv (.no) ⟨[(11, .int .i64 (t0.fKids.length : Int))], [], []⟩), some (.no), some (.no), none, none, some (.cond false)]) (kt := [1, 2, 5, 16]) (ko := [1]) (T' := [(1, .int .i64 left_4), (2, .ra 1 0), (5, .int .i64 k_5), (16, .bool false)]) (O' := [(1, .box [.int .i64 t0.fOp, .int .i64 t0.fN, .sl (List.map I t0.fType), .sl (List.map GTerm_S t0.fKids)])]) (by kernel_rfl) (And.intro (lenT (d := 11) GTerm_S t0.fKids) (And.intro (neT hb_3_0 : (decide (k_5 < (t0.fKids.length : Int))) ≠ true) (And.intro (neT hb_3_0 : (decide (k_5 < (t0.fKids.length : Int))) ≠ true) (And.intro hb_3_0 trivial)))) (by kernel_rfl) (by kernel_rfl) ?_
        obtain rfl := Option.some.inj h
        exact Into.mk
    · clear hj_7
      refine seqQ_norm ?_
      rcases itesome h with ⟨hb_8, h⟩ | ⟨hb_8, h⟩
      · refine Wp.condT (b := v_6) (by kernel_rfl) (by kernel_rfl) hb_8 ?_
        refine Wp.skipN (by kernel_rfl) ?_
        refine seqQ_norm ?_
        refine Wp.seqN (by kernel_rfl) ?_
        refine Wp.blockN (i := 1) (by kernel_rfl) ?_
        obtain ⟨e_5_3, hi_5_3, h⟩ := bsome h
        obtain ⟨r_5_6, hr_5_6, h⟩ := bsome h
        refine Wp.reg tiok mix hc (by kernel_rfl) (ah := none) (rs := [some (.no), some (.no), some (.no), some (.el (.agg [.int .i64 e_5_3.fOp, .int .i64 e_5_3.fN, .sl (List.map I e_5_3.fType), .sl (List.map GTerm_S e_5_3.fKids)])), some (.no), some (.no), some (.call (.int .i64 r_5_6) [] 1), some (.no)]) (kt := [1, 2, 5]) (ko := [1]) (T' := [(1, .int .i64 r_5_6), (2, .ra 1 0), (5, .int .i64 k_5)]) (O' := [(1, .box [.int .i64 t0.fOp, .int .i64 t0.fN, .sl (List.map I t0.fType), .sl (List.map GTerm_S t0.fKids)])]) (by kernel_rfl) (And.intro (idx_sl (enc := GTerm_S) (x := .agg [.int .i64 e_5_3.fOp, .int .i64 e_5_3.fN, .sl (List.map I e_5_3.fType), .sl (List.map GTerm_S e_5_3.fKids)]) hi_5_3 (eq_GTerm_S e_5_3)) (And.intro (spec_l2Left_ih _ _ hr_5_6) (And.intro bod_84 (And.intro (Or.inl rfl : ([] : List Nat) = [] ∨ noSh (.int .i64 r_5_6) = true) trivial)))) (by kernel_rfl) (by kernel_rfl) ?_
        refine blockQ_norm ?_
        refine seqQ_norm ?_
        refine Wp.reg tiok mix hc (by kernel_rfl) (ah := none) (rs := [some (.no), some (.no), some (.no)]) (kt := [1, 2, 5]) (ko := [1]) (T' := [(1, .int .i64 r_5_6), (2, .ra 1 0), (5, .int .i64 (wr (k_5 + 1)))]) (O' := [(1, .box [.int .i64 t0.fOp, .int .i64 t0.fN, .sl (List.map I t0.fType), .sl (List.map GTerm_S t0.fKids)])]) (by kernel_rfl) trivial (by kernel_rfl) (by kernel_rfl) ?_
        refine loopQ_norm ?_
        exact (spec_l2Left_l0_ih _ _ h c hc)
      · refine Wp.condF (b := v_6) (by kernel_rfl) (by kernel_rfl) hb_8 ?_
        refine Wp.exitN (i := 0) (by kernel_rfl) ?_
        refine seqQ_exit ?_
        refine loopQ_exit ?_
        obtain rfl := Option.some.inj h
        exact Into.view (fun a w hv => SRx.renL [] hv (by kernel_rfl) (by kernel_rfl) (by kernel_rfl))
theorem spec_l2Left_s : ∀ p r, spec_l2Left p = some r → M_spec_l2Left p r := spec_l2Left_all.1
theorem spec_l2Left_l0_s : ∀ p r, spec_l2Left_l0 p = some r → M_spec_l2Left_l0 p r := spec_l2Left_all.2
def spec_l2Many (op0 : Int) : Option (Int) :=
    (spec_l1In (op0, 0, 12)) >>= fun r_1_1 =>
    if r_1_1 = true then
      (idx [0, 0, 2, 3, 2, 2, 1, 1, 3, 1, 2, 1, 2] op0) >>= fun e_3_2 =>
      some e_3_2
    else
      some (-1)
def M_spec_l2Many (op0 : Int) (r : Int) : Prop :=
  FnSound Try.prog 163 [.int .i64 op0] (.int .i64 r) []
theorem spec_l2Many_s : ∀ p r, spec_l2Many p = some r → M_spec_l2Many p r := by
  rintro op0 r h
  unfold spec_l2Many at h
  show FnSound Try.prog 163 [.int .i64 op0] (.int .i64 r) []
  refine FnSound.body0 tiok (fn := Try.f163) (code := B163) (by kernel_rfl) (by kernel_rfl) (by kernel_rfl) (by kernel_rfl) (nt := 10) (by kernel_rfl) (by kernel_rfl) (T := [(0, .int .i64 op0)]) (O := []) (by kernel_rfl) (by kernel_rfl) (fun c hc => ?_)
  refine Wp.seqN (by kernel_rfl) ?_
  refine Wp.reg tiok mix hc (by kernel_rfl) (ah := none) (rs := [some (.no)]) (kt := [0]) (ko := []) (T' := [(0, .int .i64 op0)]) (O' := []) (by kernel_rfl) trivial (by kernel_rfl) (by kernel_rfl) ?_
  refine seqQ_norm ?_
  refine Wp.seqN (by kernel_rfl) ?_
  refine Wp.seqN (by kernel_rfl) ?_
  obtain ⟨r_1_1, hr_1_1, h⟩ := bsome h
  refine Wp.reg tiok mix hc (by kernel_rfl) (ah := none) (rs := [some (.no), some (.call (.bool r_1_1) [] 1), some (.no)]) (kt := [0, 5]) (ko := []) (T' := [(0, .int .i64 op0), (5, .bool (!r_1_1))]) (O' := []) (by kernel_rfl) (And.intro (spec_l1In_s _ _ hr_1_1) (And.intro bod_57 (And.intro (Or.inl rfl : ([] : List Nat) = [] ∨ noSh (.bool r_1_1) = true) trivial))) (by kernel_rfl) (by kernel_rfl) ?_
  refine seqQ_norm ?_
  rcases itesome h with ⟨hb_1, h⟩ | ⟨hb_1, h⟩
  · refine Wp.condF (b := (!r_1_1)) (by kernel_rfl) (by kernel_rfl) (nF hb_1) ?_
    refine Wp.skipN (by kernel_rfl) ?_
    refine seqQ_norm ?_
    refine Wp.seqN (by kernel_rfl) ?_
    obtain ⟨e_3_2, hi_3_2, h⟩ := bsome h
    refine Wp.reg tiok mix hc (by kernel_rfl) (ah := none) (rs := [some (.mk 1 true), some (.no), some (.no), some (.el (.int .i64 e_3_2)), some (.no)]) (kt := [2]) (ko := []) (T' := [(2, .int .i64 e_3_2)]) (O' := []) (by kernel_rfl) (And.intro (idx_own (enc := I) hi_3_2) (And.intro (idx_sl (enc := I) (x := .int .i64 e_3_2) hi_3_2 (eq_I e_3_2)).2 trivial)) (by kernel_rfl) (by kernel_rfl) ?_
    refine seqQ_norm ?_
    refine Wp.retN (by kernel_rfl) ?_
    obtain rfl := Option.some.inj h
    exact RetQ.ret (fl := [true]) (by kernel_rfl)
  · refine Wp.condT (b := (!r_1_1)) (by kernel_rfl) (by kernel_rfl) (nT hb_1) ?_
    refine Wp.seqN (by kernel_rfl) ?_
    refine Wp.reg tiok mix hc (by kernel_rfl) (ah := none) (rs := [some (.no)]) (kt := [2]) (ko := []) (T' := [(2, .int .i64 (-1))]) (O' := []) (by kernel_rfl) trivial (by kernel_rfl) (by kernel_rfl) ?_
    refine seqQ_norm ?_
    refine Wp.retN (by kernel_rfl) ?_
    refine seqQ_ret ?_
    obtain rfl := Option.some.inj h
    exact RetQ.ret (fl := [true]) (by kernel_rfl)
def spec_l2Has (op0 : Int) : Option (Bool) :=
    (
      if (op0 == 5) = true then
        some (true)
      else
        if (op0 == 8) = true then
          some (true)
        else
          if (op0 == 9) = true then
            some (true)
          else
            if (op0 == 11) = true then
              some (true)
            else
              some ((op0 == 12))
    ) >>= fun v_1 =>
    some v_1
def M_spec_l2Has (op0 : Int) (r : Bool) : Prop :=
  FnSound Try.prog 108 [.int .i64 op0] (.bool r) []
theorem spec_l2Has_s : ∀ p r, spec_l2Has p = some r → M_spec_l2Has p r := by
  rintro op0 r h
  unfold spec_l2Has at h
  show FnSound Try.prog 108 [.int .i64 op0] (.bool r) []
  refine FnSound.body0 tiok (fn := Try.f108) (code := B108) (by kernel_rfl) (by kernel_rfl) (by kernel_rfl) (by kernel_rfl) (nt := 21) (by kernel_rfl) (by kernel_rfl) (T := [(0, .int .i64 op0)]) (O := []) (by kernel_rfl) (by kernel_rfl) (fun c hc => ?_)
  refine Wp.seqN (by kernel_rfl) ?_
  refine Wp.reg tiok mix hc (by kernel_rfl) (ah := none) (rs := [some (.no)]) (kt := [0]) (ko := []) (T' := [(0, .int .i64 op0)]) (O' := []) (by kernel_rfl) trivial (by kernel_rfl) (by kernel_rfl) ?_
  refine seqQ_norm ?_
  refine Wp.seqN (by kernel_rfl) ?_
  obtain ⟨v_1, hj_2, h⟩ := bsome h
  refine Wp.into (x := .normal) (mkS [(2, .bool v_1)] []) ?_ ?_
  · replace h := hj_2
    rcases itesome h with ⟨hb_1_0, h⟩ | ⟨hb_1_0, h⟩
    · refine Wp.reg tiok mix hc (by kernel_rfl) (ah := none) (rs := [some (.no), some (.no), some (.no), none, none, some (.cond true), some (.no), none, none, some (.cond true), some (.no), none, none, some (.cond true), some (.no), none, none, some (.cond true), some (.no)]) (kt := [2]) (ko := []) (T' := [(2, .bool true)]) (O' := []) (by kernel_rfl) (And.intro (neF hb_1_0 : (op0 == 5) ≠ false) (And.intro (neF hb_1_0 : (op0 == 5) ≠ false) (And.intro hb_1_0 (And.intro (neF (rfl : true = true) : true ≠ false) (And.intro (neF (rfl : true = true) : true ≠ false) (And.intro (rfl : true = true) (And.intro (neF (rfl : true = true) : true ≠ false) (And.intro (neF (rfl : true = true) : true ≠ false) (And.intro (rfl : true = true) (And.intro (neF (rfl : true = true) : true ≠ false) (And.intro (neF (rfl : true = true) : true ≠ false) (And.intro (rfl : true = true) trivial)))))))))))) (by kernel_rfl) (by kernel_rfl) ?_
      obtain rfl := Option.some.inj h
      exact Into.mk
    · rcases itesome h with ⟨hb_1_1, h⟩ | ⟨hb_1_1, h⟩
      · refine Wp.reg tiok mix hc (by kernel_rfl) (ah := none) (rs := [some (.no), some (.no), some (.no), some (.no), some (.no), some (.cond false), some (.no), none, none, some (.cond true), some (.no), none, none, some (.cond true), some (.no), none, none, some (.cond true), some (.no)]) (kt := [2]) (ko := []) (T' := [(2, .bool true)]) (O' := []) (by kernel_rfl) (And.intro hb_1_0 (And.intro hb_1_0 (And.intro hb_1_0 (And.intro (neF hb_1_1 : (op0 == 8) ≠ false) (And.intro (neF hb_1_1 : (op0 == 8) ≠ false) (And.intro hb_1_1 (And.intro (neF (rfl : true = true) : true ≠ false) (And.intro (neF (rfl : true = true) : true ≠ false) (And.intro (rfl : true = true) (And.intro (neF (rfl : true = true) : true ≠ false) (And.intro (neF (rfl : true = true) : true ≠ false) (And.intro (rfl : true = true) trivial)))))))))))) (by kernel_rfl) (by kernel_rfl) ?_
        obtain rfl := Option.some.inj h
        exact Into.mk
      · rcases itesome h with ⟨hb_1_2, h⟩ | ⟨hb_1_2, h⟩
        · refine Wp.reg tiok mix hc (by kernel_rfl) (ah := none) (rs := [some (.no), some (.no), some (.no), some (.no), some (.no), some (.cond false), some (.no), some (.no), some (.no), some (.cond false), some (.no), none, none, some (.cond true), some (.no), none, none, some (.cond true), some (.no)]) (kt := [2]) (ko := []) (T' := [(2, .bool true)]) (O' := []) (by kernel_rfl) (And.intro hb_1_0 (And.intro hb_1_0 (And.intro hb_1_0 (And.intro hb_1_1 (And.intro hb_1_1 (And.intro hb_1_1 (And.intro (neF hb_1_2 : (op0 == 9) ≠ false) (And.intro (neF hb_1_2 : (op0 == 9) ≠ false) (And.intro hb_1_2 (And.intro (neF (rfl : true = true) : true ≠ false) (And.intro (neF (rfl : true = true) : true ≠ false) (And.intro (rfl : true = true) trivial)))))))))))) (by kernel_rfl) (by kernel_rfl) ?_
          obtain rfl := Option.some.inj h
          exact Into.mk
        · rcases itesome h with ⟨hb_1_3, h⟩ | ⟨hb_1_3, h⟩
          · refine Wp.reg tiok mix hc (by kernel_rfl) (ah := none) (rs := [some (.no), some (.no), some (.no), some (.no), some (.no), some (.cond false), some (.no), some (.no), some (.no), some (.cond false), some (.no), some (.no), some (.no), some (.cond false), some (.no), none, none, some (.cond true), some (.no)]) (kt := [2]) (ko := []) (T' := [(2, .bool true)]) (O' := []) (by kernel_rfl) (And.intro hb_1_0 (And.intro hb_1_0 (And.intro hb_1_0 (And.intro hb_1_1 (And.intro hb_1_1 (And.intro hb_1_1 (And.intro hb_1_2 (And.intro hb_1_2 (And.intro hb_1_2 (And.intro (neF hb_1_3 : (op0 == 11) ≠ false) (And.intro (neF hb_1_3 : (op0 == 11) ≠ false) (And.intro hb_1_3 trivial)))))))))))) (by kernel_rfl) (by kernel_rfl) ?_
            obtain rfl := Option.some.inj h
            exact Into.mk
          · refine Wp.reg tiok mix hc (by kernel_rfl) (ah := none) (rs := [some (.no), some (.no), some (.no), some (.no), some (.no), some (.cond false), some (.no), some (.no), some (.no), some (.cond false), some (.no), some (.no), some (.no), some (.cond false), some (.no), some (.no), some (.no), some (.cond false), some (.no)]) (kt := [2]) (ko := []) (T' := [(2, .bool (op0 == 12))]) (O' := []) (by kernel_rfl) (And.intro hb_1_0 (And.intro hb_1_0 (And.intro hb_1_0 (And.intro hb_1_1 (And.intro hb_1_1 (And.intro hb_1_1 (And.intro hb_1_2 (And.intro hb_1_2 (And.intro hb_1_2 (And.intro hb_1_3 (And.intro hb_1_3 (And.intro hb_1_3 trivial)))))))))))) (by kernel_rfl) (by kernel_rfl) ?_
            obtain rfl := Option.some.inj h
            exact Into.mk
  · clear hj_2
    refine seqQ_norm ?_
    refine Wp.retN (by kernel_rfl) ?_
    obtain rfl := Option.some.inj h
    exact RetQ.ret (fl := [true]) (by kernel_rfl)
def spec_l2Typed (op0 : Int) : Option (Bool) :=
    (
      if (op0 == 6) = true then
        some (true)
      else
        if (op0 == 7) = true then
          some (true)
        else
          some ((op0 == 9))
    ) >>= fun v_1 =>
    some v_1
def M_spec_l2Typed (op0 : Int) (r : Bool) : Prop :=
  FnSound Try.prog 164 [.int .i64 op0] (.bool r) []
theorem spec_l2Typed_s : ∀ p r, spec_l2Typed p = some r → M_spec_l2Typed p r := by
  rintro op0 r h
  unfold spec_l2Typed at h
  show FnSound Try.prog 164 [.int .i64 op0] (.bool r) []
  refine FnSound.body0 tiok (fn := Try.f164) (code := B164) (by kernel_rfl) (by kernel_rfl) (by kernel_rfl) (by kernel_rfl) (nt := 13) (by kernel_rfl) (by kernel_rfl) (T := [(0, .int .i64 op0)]) (O := []) (by kernel_rfl) (by kernel_rfl) (fun c hc => ?_)
  refine Wp.seqN (by kernel_rfl) ?_
  refine Wp.reg tiok mix hc (by kernel_rfl) (ah := none) (rs := [some (.no)]) (kt := [0]) (ko := []) (T' := [(0, .int .i64 op0)]) (O' := []) (by kernel_rfl) trivial (by kernel_rfl) (by kernel_rfl) ?_
  refine seqQ_norm ?_
  refine Wp.seqN (by kernel_rfl) ?_
  obtain ⟨v_1, hj_2, h⟩ := bsome h
  refine Wp.into (x := .normal) (mkS [(2, .bool v_1)] []) ?_ ?_
  · replace h := hj_2
    rcases itesome h with ⟨hb_1_0, h⟩ | ⟨hb_1_0, h⟩
    · refine Wp.reg tiok mix hc (by kernel_rfl) (ah := none) (rs := [some (.no), some (.no), some (.no), none, none, some (.cond true), some (.no), none, none, some (.cond true), some (.no)]) (kt := [2]) (ko := []) (T' := [(2, .bool true)]) (O' := []) (by kernel_rfl) (And.intro (neF hb_1_0 : (op0 == 6) ≠ false) (And.intro (neF hb_1_0 : (op0 == 6) ≠ false) (And.intro hb_1_0 (And.intro (neF (rfl : true = true) : true ≠ false) (And.intro (neF (rfl : true = true) : true ≠ false) (And.intro (rfl : true = true) trivial)))))) (by kernel_rfl) (by kernel_rfl) ?_
      obtain rfl := Option.some.inj h
      exact Into.mk
    · rcases itesome h with ⟨hb_1_1, h⟩ | ⟨hb_1_1, h⟩
      · refine Wp.reg tiok mix hc (by kernel_rfl) (ah := none) (rs := [some (.no), some (.no), some (.no), some (.no), some (.no), some (.cond false), some (.no), none, none, some (.cond true), some (.no)]) (kt := [2]) (ko := []) (T' := [(2, .bool true)]) (O' := []) (by kernel_rfl) (And.intro hb_1_0 (And.intro hb_1_0 (And.intro hb_1_0 (And.intro (neF hb_1_1 : (op0 == 7) ≠ false) (And.intro (neF hb_1_1 : (op0 == 7) ≠ false) (And.intro hb_1_1 trivial)))))) (by kernel_rfl) (by kernel_rfl) ?_
        obtain rfl := Option.some.inj h
        exact Into.mk
      · refine Wp.reg tiok mix hc (by kernel_rfl) (ah := none) (rs := [some (.no), some (.no), some (.no), some (.no), some (.no), some (.cond false), some (.no), some (.no), some (.no), some (.cond false), some (.no)]) (kt := [2]) (ko := []) (T' := [(2, .bool (op0 == 9))]) (O' := []) (by kernel_rfl) (And.intro hb_1_0 (And.intro hb_1_0 (And.intro hb_1_0 (And.intro hb_1_1 (And.intro hb_1_1 (And.intro hb_1_1 trivial)))))) (by kernel_rfl) (by kernel_rfl) ?_
        obtain rfl := Option.some.inj h
        exact Into.mk
  · clear hj_2
    refine seqQ_norm ?_
    refine Wp.retN (by kernel_rfl) ?_
    obtain rfl := Option.some.inj h
    exact RetQ.ret (fl := [true]) (by kernel_rfl)
def spec_l2Node_F1 (c : Ctx) (t0 : GTerm) (size2 : Int) (closed3 : Bool) : (Unit) ⊕ (Bool) → Exit → AState → Prop
  | .inl _ => Into c .normal (mkS [(2, .int .i64 size2), (3, .bool closed3), (4, .ra 1 0)] [(1, .box [.int .i64 t0.fOp, .int .i64 t0.fN, .sl (List.map I t0.fType), .sl (List.map GTerm_S t0.fKids)])])
  | .inr r => RetE TIx Try.f133 [] (.bool r)
def spec_l2Node_F2 (c : Ctx) (t0 : GTerm) (size2 : Int) (closed3 : Bool) : (Unit) ⊕ (Bool) → Exit → AState → Prop
  | .inl _ => Into c .normal (mkS [(2, .int .i64 size2), (3, .bool closed3), (4, .ra 1 0)] [(1, .box [.int .i64 t0.fOp, .int .i64 t0.fN, .sl (List.map I t0.fType), .sl (List.map GTerm_S t0.fKids)])])
  | .inr r => RetE TIx Try.f133 [] (.bool r)
def spec_l2Node_F3 (c : Ctx) (t0 : GTerm) (size2 : Int) (closed3 : Bool) : (Unit) ⊕ (Bool) → Exit → AState → Prop
  | .inl _ => Into c .normal (mkS [(2, .int .i64 size2), (3, .bool closed3), (4, .ra 1 0)] [(1, .box [.int .i64 t0.fOp, .int .i64 t0.fN, .sl (List.map I t0.fType), .sl (List.map GTerm_S t0.fKids)])])
  | .inr r => RetE TIx Try.f133 [] (.bool r)
def spec_l2Node (p : GTerm × Int × Int × Bool) : Option (Bool) :=
  match p with
  | (t0, n1, size2, closed3) =>
    (spec_l2Many t0.fOp) >>= fun r_1_5 =>
    if ((t0.fKids.length : Int) != r_1_5) = true then
      some false
    else
      ((
        if (t0.fOp == 0) = true then
          (spec_l1In (t0.fN, 0, (wr (n1 - 1)))) >>= fun r_6_4 =>
          if r_6_4 = true then
            some (.inl ())
          else
            some (.inr false)
        else
          ((
            if (t0.fOp == 1) = true then
              (spec_l1In (t0.fN, 0, 2)) >>= fun r_9_2 =>
              if r_9_2 = true then
                some (.inl ())
              else
                some (.inr false)
            else
              (spec_l2Has t0.fOp) >>= fun r_11_2 =>
              ((
                if r_11_2 = true then
                  (
                    if (decide (t0.fN ≥ size2)) = true then
                      some (true)
                    else
                      if (decide (t0.fN < (-1))) = true then
                        some (true)
                      else
                        if closed3 = true then
                          some ((decide (t0.fN < 0)))
                        else
                          some (false)
                  ) >>= fun v_7 =>
                  if v_7 = true then
                    some (.inr false)
                  else
                    some (.inl ())
                else
                  if (t0.fN != 0) = true then
                    some (.inr false)
                  else
                    some (.inl ())) : Option ((Unit) ⊕ (Bool))) >>= fun fl => match fl with
              | .inl () =>
                some (.inl ())
              | .inr r =>
                some (.inr r)) : Option ((Unit) ⊕ (Bool))) >>= fun fl => match fl with
          | .inl () =>
            some (.inl ())
          | .inr r =>
            some (.inr r)) : Option ((Unit) ⊕ (Bool))) >>= fun fl => match fl with
      | .inl () =>
        (spec_l2Typed t0.fOp) >>= fun r_14_2 =>
        if r_14_2 = true then
          (
            (spec_l2Type t0.fType) >>= fun r_16_2 =>
            if r_16_2 = true then
              (spec_l2Graded (t0.fType, size2, closed3)) >>= fun r_16_8 =>
              some (r_16_8)
            else
              some (false)
          ) >>= fun v_15 =>
          some v_15
        else
          some ((t0.fType.length : Int) == 0)
      | .inr r =>
        some r
def M_spec_l2Node (p : GTerm × Int × Int × Bool) (r : Bool) : Prop :=
  match p with
  | (t0, n1, size2, closed3) => FnSound Try.prog 133 [.agg [.int .i64 t0.fOp, .int .i64 t0.fN, .sl (List.map I t0.fType), .sl (List.map GTerm_S t0.fKids)], .int .i64 n1, .int .i64 size2, .bool closed3] (.bool r) []
theorem spec_l2Node_s : ∀ p r, spec_l2Node p = some r → M_spec_l2Node p r := by
  rintro ⟨t0, n1, size2, closed3⟩ r h
  unfold spec_l2Node at h
  show FnSound Try.prog 133 [.agg [.int .i64 t0.fOp, .int .i64 t0.fN, .sl (List.map I t0.fType), .sl (List.map GTerm_S t0.fKids)], .int .i64 n1, .int .i64 size2, .bool closed3] (.bool r) []
  refine FnSound.body0 tiok (fn := Try.f133) (code := B133) (by kernel_rfl) (by kernel_rfl) (by kernel_rfl) (by kernel_rfl) (nt := 76) (by kernel_rfl) (by kernel_rfl) (T := [(0, .agg [.int .i64 t0.fOp, .int .i64 t0.fN, .sl (List.map I t0.fType), .sl (List.map GTerm_S t0.fKids)]), (1, .int .i64 n1), (2, .int .i64 size2), (3, .bool closed3)]) (O := []) (by kernel_rfl) (by kernel_rfl) (fun c hc => ?_)
  refine Wp.seqN (by kernel_rfl) ?_
  refine Wp.reg tiok mix hc (by kernel_rfl) (ah := none) (rs := [some (.new 1), some (.no)]) (kt := [1, 2, 3, 4]) (ko := [1]) (T' := [(1, .int .i64 n1), (2, .int .i64 size2), (3, .bool closed3), (4, .ra 1 0)]) (O' := [(1, .box [.int .i64 t0.fOp, .int .i64 t0.fN, .sl (List.map I t0.fType), .sl (List.map GTerm_S t0.fKids)])]) (by kernel_rfl) trivial (by kernel_rfl) (by kernel_rfl) ?_
  refine seqQ_norm ?_
  refine Wp.seqN (by kernel_rfl) ?_
  refine Wp.seqN (by kernel_rfl) ?_
  obtain ⟨r_1_5, hr_1_5, h⟩ := bsome h
  refine Wp.reg tiok mix hc (by kernel_rfl) (ah := (some [[], [0], [0, 1], [], [3], [3, 4], [0, 1, 2, 3, 4, 5]])) (rs := [some (.no), some (.no), some (.eqv (.no) ⟨[(11, .int .i64 (t0.fKids.length : Int))], [], []⟩), some (.no), some (.no), some (.call (.int .i64 r_1_5) [] 1), some (.no)]) (kt := [1, 2, 3, 4, 15]) (ko := [1]) (T' := [(1, .int .i64 n1), (2, .int .i64 size2), (3, .bool closed3), (4, .ra 1 0), (15, .bool ((t0.fKids.length : Int) != r_1_5))]) (O' := [(1, .box [.int .i64 t0.fOp, .int .i64 t0.fN, .sl (List.map I t0.fType), .sl (List.map GTerm_S t0.fKids)])]) (by kernel_rfl) (And.intro (lenT (d := 11) GTerm_S t0.fKids) (And.intro (spec_l2Many_s _ _ hr_1_5) (And.intro bod_163 (And.intro (Or.inl rfl : ([] : List Nat) = [] ∨ noSh (.int .i64 r_1_5) = true) trivial)))) (by kernel_rfl) (by kernel_rfl) ?_
  refine seqQ_norm ?_
  rcases itesome h with ⟨hb_1, h⟩ | ⟨hb_1, h⟩
  · refine Wp.condT (b := ((t0.fKids.length : Int) != r_1_5)) (by kernel_rfl) (by kernel_rfl) hb_1 ?_
    refine Wp.seqN (by kernel_rfl) ?_
    refine Wp.reg tiok mix hc (by kernel_rfl) (ah := none) (rs := [some (.no)]) (kt := [8]) (ko := []) (T' := [(8, .bool false)]) (O' := []) (by kernel_rfl) trivial (by kernel_rfl) (by kernel_rfl) ?_
    refine seqQ_norm ?_
    refine Wp.retN (by kernel_rfl) ?_
    refine seqQ_ret ?_
    obtain rfl := Option.some.inj h
    exact RetQ.ret (fl := [true]) (by kernel_rfl)
  · refine Wp.condF (b := ((t0.fKids.length : Int) != r_1_5)) (by kernel_rfl) (by kernel_rfl) hb_1 ?_
    refine Wp.skipN (by kernel_rfl) ?_
    refine seqQ_norm ?_
    refine Wp.seqN (by kernel_rfl) ?_
    refine Wp.blockN (i := 0) (by kernel_rfl) ?_
    refine Wp.seqN (by kernel_rfl) ?_
    refine Wp.reg tiok mix hc (by kernel_rfl) (ah := none) (rs := [some (.no), some (.no), some (.no), some (.no)]) (kt := [1, 2, 3, 4, 19]) (ko := [1]) (T' := [(1, .int .i64 n1), (2, .int .i64 size2), (3, .bool closed3), (4, .ra 1 0), (19, .bool (t0.fOp == 0))]) (O' := [(1, .box [.int .i64 t0.fOp, .int .i64 t0.fN, .sl (List.map I t0.fType), .sl (List.map GTerm_S t0.fKids)])]) (by kernel_rfl) trivial (by kernel_rfl) (by kernel_rfl) ?_
    refine seqQ_norm ?_
    obtain ⟨fl, hj_13, h⟩ := bsome h
    have hF : Wp Try.prog c (cr (cl (cl (cr (cr B133))))) (spec_l2Node_F3 c t0 size2 closed3 fl) (mkS [(1, .int .i64 n1), (2, .int .i64 size2), (3, .bool closed3), (4, .ra 1 0), (19, .bool (t0.fOp == 0))] [(1, .box [.int .i64 t0.fOp, .int .i64 t0.fN, .sl (List.map I t0.fType), .sl (List.map GTerm_S t0.fKids)])]) := by
      replace h := hj_13
      rcases itesome h with ⟨hb_2, h⟩ | ⟨hb_2, h⟩
      · refine Wp.condT (b := (t0.fOp == 0)) (by kernel_rfl) (by kernel_rfl) hb_2 ?_
        refine Wp.seqN (by kernel_rfl) ?_
        obtain ⟨r_6_4, hr_6_4, h⟩ := bsome h
        refine Wp.reg tiok mix hc (by kernel_rfl) (ah := none) (rs := [some (.no), some (.no), some (.no), some (.no), some (.call (.bool r_6_4) [] 1), some (.no)]) (kt := [2, 3, 4, 28]) (ko := [1]) (T' := [(2, .int .i64 size2), (3, .bool closed3), (4, .ra 1 0), (28, .bool (!r_6_4))]) (O' := [(1, .box [.int .i64 t0.fOp, .int .i64 t0.fN, .sl (List.map I t0.fType), .sl (List.map GTerm_S t0.fKids)])]) (by kernel_rfl) (And.intro (spec_l1In_s _ _ hr_6_4) (And.intro bod_57 (And.intro (Or.inl rfl : ([] : List Nat) = [] ∨ noSh (.bool r_6_4) = true) trivial))) (by kernel_rfl) (by kernel_rfl) ?_
        refine seqQ_norm ?_
        rcases itesome h with ⟨hb_3, h⟩ | ⟨hb_3, h⟩
        · refine Wp.condF (b := (!r_6_4)) (by kernel_rfl) (by kernel_rfl) (nF hb_3) ?_
          refine Wp.skipN (by kernel_rfl) ?_
          obtain rfl := Option.some.inj h
          exact Into.view (fun a w hv => SRx.renL [] hv (by kernel_rfl) (by kernel_rfl) (by kernel_rfl))
        · refine Wp.condT (b := (!r_6_4)) (by kernel_rfl) (by kernel_rfl) (nT hb_3) ?_
          refine Wp.seqN (by kernel_rfl) ?_
          refine Wp.reg tiok mix hc (by kernel_rfl) (ah := none) (rs := [some (.no)]) (kt := [8]) (ko := []) (T' := [(8, .bool false)]) (O' := []) (by kernel_rfl) trivial (by kernel_rfl) (by kernel_rfl) ?_
          refine seqQ_norm ?_
          refine Wp.retN (by kernel_rfl) ?_
          obtain rfl := Option.some.inj h
          exact RetE.ret (fl := [true]) (by kernel_rfl)
      · refine Wp.condF (b := (t0.fOp == 0)) (by kernel_rfl) (by kernel_rfl) hb_2 ?_
        refine Wp.seqN (by kernel_rfl) ?_
        refine Wp.reg tiok mix hc (by kernel_rfl) (ah := none) (rs := [some (.no), some (.no), some (.no), some (.no)]) (kt := [2, 3, 4, 29]) (ko := [1]) (T' := [(2, .int .i64 size2), (3, .bool closed3), (4, .ra 1 0), (29, .bool (t0.fOp == 1))]) (O' := [(1, .box [.int .i64 t0.fOp, .int .i64 t0.fN, .sl (List.map I t0.fType), .sl (List.map GTerm_S t0.fKids)])]) (by kernel_rfl) trivial (by kernel_rfl) (by kernel_rfl) ?_
        refine seqQ_norm ?_
        obtain ⟨fl, hj_12, h⟩ := bsome h
        have hF : Wp Try.prog c (cr (cr (cr (cl (cl (cr (cr B133))))))) (spec_l2Node_F2 c t0 size2 closed3 fl) (mkS [(2, .int .i64 size2), (3, .bool closed3), (4, .ra 1 0), (29, .bool (t0.fOp == 1))] [(1, .box [.int .i64 t0.fOp, .int .i64 t0.fN, .sl (List.map I t0.fType), .sl (List.map GTerm_S t0.fKids)])]) := by
          replace h := hj_12
          rcases itesome h with ⟨hb_4, h⟩ | ⟨hb_4, h⟩
          · refine Wp.condT (b := (t0.fOp == 1)) (by kernel_rfl) (by kernel_rfl) hb_4 ?_
            refine Wp.seqN (by kernel_rfl) ?_
            obtain ⟨r_9_2, hr_9_2, h⟩ := bsome h
            refine Wp.reg tiok mix hc (by kernel_rfl) (ah := none) (rs := [some (.no), some (.no), some (.call (.bool r_9_2) [] 1), some (.no)]) (kt := [2, 3, 4, 36]) (ko := [1]) (T' := [(2, .int .i64 size2), (3, .bool closed3), (4, .ra 1 0), (36, .bool (!r_9_2))]) (O' := [(1, .box [.int .i64 t0.fOp, .int .i64 t0.fN, .sl (List.map I t0.fType), .sl (List.map GTerm_S t0.fKids)])]) (by kernel_rfl) (And.intro (spec_l1In_s _ _ hr_9_2) (And.intro bod_57 (And.intro (Or.inl rfl : ([] : List Nat) = [] ∨ noSh (.bool r_9_2) = true) trivial))) (by kernel_rfl) (by kernel_rfl) ?_
            refine seqQ_norm ?_
            rcases itesome h with ⟨hb_5, h⟩ | ⟨hb_5, h⟩
            · refine Wp.condF (b := (!r_9_2)) (by kernel_rfl) (by kernel_rfl) (nF hb_5) ?_
              refine Wp.skipN (by kernel_rfl) ?_
              obtain rfl := Option.some.inj h
              exact Into.view (fun a w hv => SRx.renL [] hv (by kernel_rfl) (by kernel_rfl) (by kernel_rfl))
            · refine Wp.condT (b := (!r_9_2)) (by kernel_rfl) (by kernel_rfl) (nT hb_5) ?_
              refine Wp.seqN (by kernel_rfl) ?_
              refine Wp.reg tiok mix hc (by kernel_rfl) (ah := none) (rs := [some (.no)]) (kt := [8]) (ko := []) (T' := [(8, .bool false)]) (O' := []) (by kernel_rfl) trivial (by kernel_rfl) (by kernel_rfl) ?_
              refine seqQ_norm ?_
              refine Wp.retN (by kernel_rfl) ?_
              obtain rfl := Option.some.inj h
              exact RetE.ret (fl := [true]) (by kernel_rfl)
          · refine Wp.condF (b := (t0.fOp == 1)) (by kernel_rfl) (by kernel_rfl) hb_4 ?_
            refine Wp.seqN (by kernel_rfl) ?_
            obtain ⟨r_11_2, hr_11_2, h⟩ := bsome h
            refine Wp.reg tiok mix hc (by kernel_rfl) (ah := none) (rs := [some (.no), some (.no), some (.call (.bool r_11_2) [] 1), some (.no)]) (kt := [2, 3, 4, 37]) (ko := [1]) (T' := [(2, .int .i64 size2), (3, .bool closed3), (4, .ra 1 0), (37, .bool r_11_2)]) (O' := [(1, .box [.int .i64 t0.fOp, .int .i64 t0.fN, .sl (List.map I t0.fType), .sl (List.map GTerm_S t0.fKids)])]) (by kernel_rfl) (And.intro (spec_l2Has_s _ _ hr_11_2) (And.intro bod_108 (And.intro (Or.inl rfl : ([] : List Nat) = [] ∨ noSh (.bool r_11_2) = true) trivial))) (by kernel_rfl) (by kernel_rfl) ?_
            refine seqQ_norm ?_
            obtain ⟨fl, hj_11, h⟩ := bsome h
            have hF : Wp Try.prog c (cr (cr (cr (cr (cr (cl (cl (cr (cr B133))))))))) (spec_l2Node_F1 c t0 size2 closed3 fl) (mkS [(2, .int .i64 size2), (3, .bool closed3), (4, .ra 1 0), (37, .bool r_11_2)] [(1, .box [.int .i64 t0.fOp, .int .i64 t0.fN, .sl (List.map I t0.fType), .sl (List.map GTerm_S t0.fKids)])]) := by
              replace h := hj_11
              rcases itesome h with ⟨hb_6, h⟩ | ⟨hb_6, h⟩
              · refine Wp.condT (b := r_11_2) (by kernel_rfl) (by kernel_rfl) hb_6 ?_
                refine Wp.seqN (by kernel_rfl) ?_
                obtain ⟨v_7, hj_8, h⟩ := bsome h
                refine Wp.into (x := .normal) (mkS [(2, .int .i64 size2), (3, .bool closed3), (4, .ra 1 0), (57, .bool v_7)] [(1, .box [.int .i64 t0.fOp, .int .i64 t0.fN, .sl (List.map I t0.fType), .sl (List.map GTerm_S t0.fKids)])]) ?_ ?_
                · replace h := hj_8
                  rcases itesome h with ⟨hb_12_0, h⟩ | ⟨hb_12_0, h⟩
                  · refine Wp.reg tiok mix hc (by kernel_rfl) (ah := none) (rs := [some (.no), some (.no), some (.no), some (.no), some (.no), none, none, none, some (.cond true), some (.no), none, none, none, none, none, none, some (.cond true)]) (kt := [2, 3, 4, 57]) (ko := [1]) (T' := [(2, .int .i64 size2), (3, .bool closed3), (4, .ra 1 0), (57, .bool true)]) (O' := [(1, .box [.int .i64 t0.fOp, .int .i64 t0.fN, .sl (List.map I t0.fType), .sl (List.map GTerm_S t0.fKids)])]) (by kernel_rfl) (And.intro (neF hb_12_0 : (decide (t0.fN ≥ size2)) ≠ false) (And.intro (neF hb_12_0 : (decide (t0.fN ≥ size2)) ≠ false) (And.intro (neF hb_12_0 : (decide (t0.fN ≥ size2)) ≠ false) (And.intro hb_12_0 (And.intro (neF (rfl : true = true) : true ≠ false) (And.intro (neF (rfl : true = true) : true ≠ false) (And.intro (neF (rfl : true = true) : true ≠ false) (And.intro (rfl : true = true) trivial)))))))) (by kernel_rfl) (by kernel_rfl) ?_
                    obtain rfl := Option.some.inj h
                    exact Into.mk
                  · rcases itesome h with ⟨hb_12_1, h⟩ | ⟨hb_12_1, h⟩
                    · refine Wp.reg tiok mix hc (by kernel_rfl) (ah := none) (rs := [some (.no), some (.no), some (.no), some (.no), some (.no), some (.no), some (.no), some (.no), some (.cond false), some (.no), none, none, none, none, none, none, some (.cond true)]) (kt := [2, 3, 4, 57]) (ko := [1]) (T' := [(2, .int .i64 size2), (3, .bool closed3), (4, .ra 1 0), (57, .bool true)]) (O' := [(1, .box [.int .i64 t0.fOp, .int .i64 t0.fN, .sl (List.map I t0.fType), .sl (List.map GTerm_S t0.fKids)])]) (by kernel_rfl) (And.intro hb_12_0 (And.intro hb_12_0 (And.intro hb_12_0 (And.intro hb_12_0 (And.intro (neF hb_12_1 : (decide (t0.fN < (-1))) ≠ false) (And.intro (neF hb_12_1 : (decide (t0.fN < (-1))) ≠ false) (And.intro (neF hb_12_1 : (decide (t0.fN < (-1))) ≠ false) (And.intro hb_12_1 trivial)))))))) (by kernel_rfl) (by kernel_rfl) ?_
                      obtain rfl := Option.some.inj h
                      exact Into.mk
                    · rcases itesome h with ⟨hb_12_2, h⟩ | ⟨hb_12_2, h⟩
                      · refine Wp.reg tiok mix hc (by kernel_rfl) (ah := none) (rs := [some (.no), some (.no), some (.no), some (.no), some (.no), some (.no), some (.no), some (.no), some (.cond false), some (.no), some (.no), some (.no), some (.no), some (.no), some (.no), some (.cond true), some (.cond false)]) (kt := [2, 3, 4, 57]) (ko := [1]) (T' := [(2, .int .i64 size2), (3, .bool closed3), (4, .ra 1 0), (57, .bool (decide (t0.fN < 0)))]) (O' := [(1, .box [.int .i64 t0.fOp, .int .i64 t0.fN, .sl (List.map I t0.fType), .sl (List.map GTerm_S t0.fKids)])]) (by kernel_rfl) (And.intro hb_12_0 (And.intro hb_12_0 (And.intro hb_12_0 (And.intro hb_12_0 (And.intro hb_12_1 (And.intro hb_12_1 (And.intro hb_12_2 (And.intro hb_12_2 (And.intro hb_12_2 (And.intro hb_12_1 (And.intro hb_12_2 (And.intro hb_12_1 trivial)))))))))))) (by kernel_rfl) (by kernel_rfl) ?_
                        obtain rfl := Option.some.inj h
                        exact Into.mk
                      · refine Wp.reg tiok mix hc (by kernel_rfl) (ah := none) (rs := [some (.no), some (.no), some (.no), some (.no), some (.no), some (.no), some (.no), some (.no), some (.cond false), some (.no), some (.no), some (.no), none, none, none, some (.cond false), some (.cond false)]) (kt := [2, 3, 4, 57]) (ko := [1]) (T' := [(2, .int .i64 size2), (3, .bool closed3), (4, .ra 1 0), (57, .bool false)]) (O' := [(1, .box [.int .i64 t0.fOp, .int .i64 t0.fN, .sl (List.map I t0.fType), .sl (List.map GTerm_S t0.fKids)])]) (by kernel_rfl) (And.intro hb_12_0 (And.intro hb_12_0 (And.intro hb_12_0 (And.intro hb_12_0 (And.intro hb_12_1 (And.intro hb_12_1 (And.intro (neT hb_12_2 : closed3 ≠ true) (And.intro (neT hb_12_2 : closed3 ≠ true) (And.intro (neT hb_12_2 : closed3 ≠ true) (And.intro hb_12_1 (And.intro hb_12_2 (And.intro hb_12_1 trivial)))))))))))) (by kernel_rfl) (by kernel_rfl) ?_
                        obtain rfl := Option.some.inj h
                        exact Into.mk
                · clear hj_8
                  refine seqQ_norm ?_
                  rcases itesome h with ⟨hb_9, h⟩ | ⟨hb_9, h⟩
                  · refine Wp.condT (b := v_7) (by kernel_rfl) (by kernel_rfl) hb_9 ?_
                    refine Wp.seqN (by kernel_rfl) ?_
                    refine Wp.reg tiok mix hc (by kernel_rfl) (ah := none) (rs := [some (.no)]) (kt := [8]) (ko := []) (T' := [(8, .bool false)]) (O' := []) (by kernel_rfl) trivial (by kernel_rfl) (by kernel_rfl) ?_
                    refine seqQ_norm ?_
                    refine Wp.retN (by kernel_rfl) ?_
                    obtain rfl := Option.some.inj h
                    exact RetE.ret (fl := [true]) (by kernel_rfl)
                  · refine Wp.condF (b := v_7) (by kernel_rfl) (by kernel_rfl) hb_9 ?_
                    refine Wp.skipN (by kernel_rfl) ?_
                    obtain rfl := Option.some.inj h
                    exact Into.view (fun a w hv => SRx.renL [] hv (by kernel_rfl) (by kernel_rfl) (by kernel_rfl))
              · refine Wp.condF (b := r_11_2) (by kernel_rfl) (by kernel_rfl) hb_6 ?_
                refine Wp.seqN (by kernel_rfl) ?_
                refine Wp.reg tiok mix hc (by kernel_rfl) (ah := none) (rs := [some (.no), some (.no), some (.no)]) (kt := [2, 3, 4, 18]) (ko := [1]) (T' := [(2, .int .i64 size2), (3, .bool closed3), (4, .ra 1 0), (18, .bool (t0.fN != 0))]) (O' := [(1, .box [.int .i64 t0.fOp, .int .i64 t0.fN, .sl (List.map I t0.fType), .sl (List.map GTerm_S t0.fKids)])]) (by kernel_rfl) trivial (by kernel_rfl) (by kernel_rfl) ?_
                refine seqQ_norm ?_
                rcases itesome h with ⟨hb_10, h⟩ | ⟨hb_10, h⟩
                · refine Wp.condT (b := (t0.fN != 0)) (by kernel_rfl) (by kernel_rfl) hb_10 ?_
                  refine Wp.seqN (by kernel_rfl) ?_
                  refine Wp.reg tiok mix hc (by kernel_rfl) (ah := none) (rs := [some (.no)]) (kt := [8]) (ko := []) (T' := [(8, .bool false)]) (O' := []) (by kernel_rfl) trivial (by kernel_rfl) (by kernel_rfl) ?_
                  refine seqQ_norm ?_
                  refine Wp.retN (by kernel_rfl) ?_
                  obtain rfl := Option.some.inj h
                  exact RetE.ret (fl := [true]) (by kernel_rfl)
                · refine Wp.condF (b := (t0.fN != 0)) (by kernel_rfl) (by kernel_rfl) hb_10 ?_
                  refine Wp.skipN (by kernel_rfl) ?_
                  obtain rfl := Option.some.inj h
                  exact Into.view (fun a w hv => SRx.renL [] hv (by kernel_rfl) (by kernel_rfl) (by kernel_rfl))
            rcases fl with ⟨⟩ | r
            · refine Wp.into (x := .normal) (mkS [(2, .int .i64 size2), (3, .bool closed3), (4, .ra 1 0)] [(1, .box [.int .i64 t0.fOp, .int .i64 t0.fN, .sl (List.map I t0.fType), .sl (List.map GTerm_S t0.fKids)])]) hF ?_
              obtain rfl := Option.some.inj h
              exact Into.mk
            · refine Wp.mono hF ?_
              rintro _ _ ⟨rfl, hfin⟩
              obtain rfl := Option.some.inj h
              exact ⟨rfl, hfin⟩
        rcases fl with ⟨⟩ | r
        · refine Wp.into (x := .normal) (mkS [(2, .int .i64 size2), (3, .bool closed3), (4, .ra 1 0)] [(1, .box [.int .i64 t0.fOp, .int .i64 t0.fN, .sl (List.map I t0.fType), .sl (List.map GTerm_S t0.fKids)])]) hF ?_
          obtain rfl := Option.some.inj h
          exact Into.mk
        · refine Wp.mono hF ?_
          rintro _ _ ⟨rfl, hfin⟩
          obtain rfl := Option.some.inj h
          exact ⟨rfl, hfin⟩
    rcases fl with ⟨⟩ | r
    · refine Wp.into (x := .normal) (mkS [(2, .int .i64 size2), (3, .bool closed3), (4, .ra 1 0)] [(1, .box [.int .i64 t0.fOp, .int .i64 t0.fN, .sl (List.map I t0.fType), .sl (List.map GTerm_S t0.fKids)])]) hF ?_
      refine blockQ_norm ?_
      refine seqQ_norm ?_
      refine Wp.seqN (by kernel_rfl) ?_
      refine Wp.seqN (by kernel_rfl) ?_
      obtain ⟨r_14_2, hr_14_2, h⟩ := bsome h
      refine Wp.reg tiok mix hc (by kernel_rfl) (ah := none) (rs := [some (.no), some (.no), some (.call (.bool r_14_2) [] 1), some (.no)]) (kt := [2, 3, 4, 61]) (ko := [1]) (T' := [(2, .int .i64 size2), (3, .bool closed3), (4, .ra 1 0), (61, .bool (!r_14_2))]) (O' := [(1, .box [.int .i64 t0.fOp, .int .i64 t0.fN, .sl (List.map I t0.fType), .sl (List.map GTerm_S t0.fKids)])]) (by kernel_rfl) (And.intro (spec_l2Typed_s _ _ hr_14_2) (And.intro bod_164 (And.intro (Or.inl rfl : ([] : List Nat) = [] ∨ noSh (.bool r_14_2) = true) trivial))) (by kernel_rfl) (by kernel_rfl) ?_
      refine seqQ_norm ?_
      rcases itesome h with ⟨hb_14, h⟩ | ⟨hb_14, h⟩
      · refine Wp.condF (b := (!r_14_2)) (by kernel_rfl) (by kernel_rfl) (nF hb_14) ?_
        refine Wp.skipN (by kernel_rfl) ?_
        refine seqQ_norm ?_
        refine Wp.seqN (by kernel_rfl) ?_
        obtain ⟨v_15, hj_16, h⟩ := bsome h
        refine Wp.into (x := .normal) (mkS [(8, .bool v_15)] []) ?_ ?_
        · replace h := hj_16
          obtain ⟨r_16_2, hr_16_2, h⟩ := bsome h
          rcases itesome h with ⟨hb_16_0, h⟩ | ⟨hb_16_0, h⟩
          · obtain ⟨r_16_8, hr_16_8, h⟩ := bsome h
            refine Wp.reg tiok mix hc (by kernel_rfl) (ah := none) (rs := [some (.no), some (.no), some (.call (.bool r_16_2) [] 1), some (.no), some (.no), some (.no), some (.no), some (.no), some (.call (.bool r_16_8) [] 1), some (.cond true), some (.no)]) (kt := [8]) (ko := []) (T' := [(8, .bool r_16_8)]) (O' := []) (by kernel_rfl) (And.intro (spec_l2Type_s _ _ hr_16_2) (And.intro bod_86 (And.intro (Or.inl rfl : ([] : List Nat) = [] ∨ noSh (.bool r_16_2) = true) (And.intro hb_16_0 (And.intro hb_16_0 (And.intro hb_16_0 (And.intro hb_16_0 (And.intro hb_16_0 (And.intro (spec_l2Graded_s _ _ hr_16_8) (And.intro bod_87 (And.intro (Or.inl rfl : ([] : List Nat) = [] ∨ noSh (.bool r_16_8) = true) (And.intro hb_16_0 trivial)))))))))))) (by kernel_rfl) (by kernel_rfl) ?_
            obtain rfl := Option.some.inj h
            exact Into.mk
          · refine Wp.reg tiok mix hc (by kernel_rfl) (ah := none) (rs := [some (.no), some (.no), some (.call (.bool r_16_2) [] 1), some (.no), none, none, none, none, none, some (.cond false), some (.no)]) (kt := [8]) (ko := []) (T' := [(8, .bool false)]) (O' := []) (by kernel_rfl) (And.intro (spec_l2Type_s _ _ hr_16_2) (And.intro bod_86 (And.intro (Or.inl rfl : ([] : List Nat) = [] ∨ noSh (.bool r_16_2) = true) (And.intro (neT hb_16_0 : r_16_2 ≠ true) (And.intro (neT hb_16_0 : r_16_2 ≠ true) (And.intro (neT hb_16_0 : r_16_2 ≠ true) (And.intro (neT hb_16_0 : r_16_2 ≠ true) (And.intro (neT hb_16_0 : r_16_2 ≠ true) (And.intro hb_16_0 trivial))))))))) (by kernel_rfl) (by kernel_rfl) ?_
            obtain rfl := Option.some.inj h
            exact Into.mk
        · clear hj_16
          refine seqQ_norm ?_
          refine Wp.retN (by kernel_rfl) ?_
          obtain rfl := Option.some.inj h
          exact RetQ.ret (fl := [true]) (by kernel_rfl)
      · refine Wp.condT (b := (!r_14_2)) (by kernel_rfl) (by kernel_rfl) (nT hb_14) ?_
        refine Wp.seqN (by kernel_rfl) ?_
        refine Wp.reg tiok mix hc (by kernel_rfl) (ah := none) (rs := [some (.no), some (.no), some (.eqv (.no) ⟨[(64, .int .i64 (t0.fType.length : Int))], [], []⟩), some (.no), some (.no)]) (kt := [8]) (ko := []) (T' := [(8, .bool ((t0.fType.length : Int) == 0))]) (O' := []) (by kernel_rfl) (And.intro (lenT (d := 64) I t0.fType) trivial) (by kernel_rfl) (by kernel_rfl) ?_
        refine seqQ_norm ?_
        refine Wp.retN (by kernel_rfl) ?_
        refine seqQ_ret ?_
        obtain rfl := Option.some.inj h
        exact RetQ.ret (fl := [true]) (by kernel_rfl)
    · refine Wp.mono hF ?_
      rintro _ _ ⟨rfl, hfin⟩
      refine blockQ_ret ?_
      refine seqQ_ret ?_
      obtain rfl := Option.some.inj h
      exact ⟨.inl rfl, hfin⟩
def spec_l2Adds (p : Int × Int) : Option (Int) :=
  match p with
  | (op0, kid1) =>
    (
      if (op0 == 5) = true then
        some ((kid1 == 1))
      else
        some (false)
    ) >>= fun v_1 =>
    if v_1 = true then
      some 2
    else
      (
        if (op0 == 8) = true then
          if (decide (kid1 > 0)) = true then
            some (true)
          else
            if (op0 == 9) = true then
              some (true)
            else
              if (op0 == 12) = true then
                some ((kid1 == 1))
              else
                some (false)
        else
          if (op0 == 9) = true then
            some (true)
          else
            if (op0 == 12) = true then
              some ((kid1 == 1))
            else
              some (false)
      ) >>= fun v_4 =>
      if v_4 = true then
        some 1
      else
        some 0
def M_spec_l2Adds (p : Int × Int) (r : Int) : Prop :=
  match p with
  | (op0, kid1) => FnSound Try.prog 134 [.int .i64 op0, .int .i64 kid1] (.int .i64 r) []
theorem spec_l2Adds_s : ∀ p r, spec_l2Adds p = some r → M_spec_l2Adds p r := by
  rintro ⟨op0, kid1⟩ r h
  unfold spec_l2Adds at h
  show FnSound Try.prog 134 [.int .i64 op0, .int .i64 kid1] (.int .i64 r) []
  refine FnSound.body0 tiok (fn := Try.f134) (code := B134) (by kernel_rfl) (by kernel_rfl) (by kernel_rfl) (by kernel_rfl) (nt := 31) (by kernel_rfl) (by kernel_rfl) (T := [(0, .int .i64 op0), (1, .int .i64 kid1)]) (O := []) (by kernel_rfl) (by kernel_rfl) (fun c hc => ?_)
  refine Wp.seqN (by kernel_rfl) ?_
  refine Wp.reg tiok mix hc (by kernel_rfl) (ah := none) (rs := [some (.no)]) (kt := [0, 1]) (ko := []) (T' := [(0, .int .i64 op0), (1, .int .i64 kid1)]) (O' := []) (by kernel_rfl) trivial (by kernel_rfl) (by kernel_rfl) ?_
  refine seqQ_norm ?_
  refine Wp.seqN (by kernel_rfl) ?_
  refine Wp.blockN (i := 0) (by kernel_rfl) ?_
  refine Wp.seqN (by kernel_rfl) ?_
  obtain ⟨v_1, hj_2, h⟩ := bsome h
  refine Wp.into (x := .normal) (mkS [(0, .int .i64 op0), (1, .int .i64 kid1), (5, .bool v_1)] []) ?_ ?_
  · replace h := hj_2
    rcases itesome h with ⟨hb_1_0, h⟩ | ⟨hb_1_0, h⟩
    · refine Wp.reg tiok mix hc (by kernel_rfl) (ah := none) (rs := [some (.no), some (.no), some (.no), some (.no), some (.no), some (.cond true), some (.no)]) (kt := [0, 1, 5]) (ko := []) (T' := [(0, .int .i64 op0), (1, .int .i64 kid1), (5, .bool (kid1 == 1))]) (O' := []) (by kernel_rfl) (And.intro hb_1_0 (And.intro hb_1_0 (And.intro hb_1_0 trivial))) (by kernel_rfl) (by kernel_rfl) ?_
      obtain rfl := Option.some.inj h
      exact Into.mk
    · refine Wp.reg tiok mix hc (by kernel_rfl) (ah := none) (rs := [some (.no), some (.no), some (.no), none, none, some (.cond false), some (.no)]) (kt := [0, 1, 5]) (ko := []) (T' := [(0, .int .i64 op0), (1, .int .i64 kid1), (5, .bool false)]) (O' := []) (by kernel_rfl) (And.intro (neT hb_1_0 : (op0 == 5) ≠ true) (And.intro (neT hb_1_0 : (op0 == 5) ≠ true) (And.intro hb_1_0 trivial))) (by kernel_rfl) (by kernel_rfl) ?_
      obtain rfl := Option.some.inj h
      exact Into.mk
  · clear hj_2
    refine seqQ_norm ?_
    rcases itesome h with ⟨hb_3, h⟩ | ⟨hb_3, h⟩
    · refine Wp.condT (b := v_1) (by kernel_rfl) (by kernel_rfl) hb_3 ?_
      refine Wp.seqN (by kernel_rfl) ?_
      refine Wp.reg tiok mix hc (by kernel_rfl) (ah := none) (rs := [some (.no)]) (kt := [4]) (ko := []) (T' := [(4, .int .i64 2)]) (O' := []) (by kernel_rfl) trivial (by kernel_rfl) (by kernel_rfl) ?_
      refine seqQ_norm ?_
      refine Wp.retN (by kernel_rfl) ?_
      refine blockQ_ret ?_
      refine seqQ_ret ?_
      obtain rfl := Option.some.inj h
      exact RetQ.ret (fl := [true]) (by kernel_rfl)
    · refine Wp.condF (b := v_1) (by kernel_rfl) (by kernel_rfl) hb_3 ?_
      refine Wp.seqN (by kernel_rfl) ?_
      obtain ⟨v_4, hj_5, h⟩ := bsome h
      refine Wp.into (x := .normal) (mkS [(12, .bool v_4)] []) ?_ ?_
      · replace h := hj_5
        rcases itesome h with ⟨hb_3_0, h⟩ | ⟨hb_3_0, h⟩
        · rcases itesome h with ⟨hb_3_1, h⟩ | ⟨hb_3_1, h⟩
          · refine Wp.reg tiok mix hc (by kernel_rfl) (ah := none) (rs := [some (.no), some (.no), some (.no), some (.no), some (.no), some (.cond true), some (.no), none, none, some (.cond true), some (.no), none, none, none, none, none, none, some (.cond true), some (.no)]) (kt := [12]) (ko := []) (T' := [(12, .bool true)]) (O' := []) (by kernel_rfl) (And.intro hb_3_0 (And.intro hb_3_0 (And.intro hb_3_0 (And.intro (neF hb_3_1 : (decide (kid1 > 0)) ≠ false) (And.intro (neF hb_3_1 : (decide (kid1 > 0)) ≠ false) (And.intro hb_3_1 (And.intro (neF (rfl : true = true) : true ≠ false) (And.intro (neF (rfl : true = true) : true ≠ false) (And.intro (neF (rfl : true = true) : true ≠ false) (And.intro (neF (rfl : true = true) : true ≠ false) (And.intro (rfl : true = true) trivial))))))))))) (by kernel_rfl) (by kernel_rfl) ?_
            obtain rfl := Option.some.inj h
            exact Into.mk
          · rcases itesome h with ⟨hb_3_2, h⟩ | ⟨hb_3_2, h⟩
            · refine Wp.reg tiok mix hc (by kernel_rfl) (ah := none) (rs := [some (.no), some (.no), some (.no), some (.no), some (.no), some (.cond true), some (.no), some (.no), some (.no), some (.cond false), some (.no), none, none, none, none, none, none, some (.cond true), some (.no)]) (kt := [12]) (ko := []) (T' := [(12, .bool true)]) (O' := []) (by kernel_rfl) (And.intro hb_3_0 (And.intro hb_3_0 (And.intro hb_3_0 (And.intro hb_3_1 (And.intro hb_3_1 (And.intro hb_3_1 (And.intro (neF hb_3_2 : (op0 == 9) ≠ false) (And.intro (neF hb_3_2 : (op0 == 9) ≠ false) (And.intro (neF hb_3_2 : (op0 == 9) ≠ false) (And.intro (neF hb_3_2 : (op0 == 9) ≠ false) (And.intro hb_3_2 trivial))))))))))) (by kernel_rfl) (by kernel_rfl) ?_
              obtain rfl := Option.some.inj h
              exact Into.mk
            · rcases itesome h with ⟨hb_3_3, h⟩ | ⟨hb_3_3, h⟩
              · refine Wp.reg tiok mix hc (by kernel_rfl) (ah := none) (rs := [some (.no), some (.no), some (.no), some (.no), some (.no), some (.cond true), some (.no), some (.no), some (.no), some (.cond false), some (.no), some (.no), some (.no), some (.no), some (.no), some (.no), some (.cond true), some (.cond false), some (.no)]) (kt := [12]) (ko := []) (T' := [(12, .bool (kid1 == 1))]) (O' := []) (by kernel_rfl) (And.intro hb_3_0 (And.intro hb_3_0 (And.intro hb_3_0 (And.intro hb_3_1 (And.intro hb_3_1 (And.intro hb_3_1 (And.intro hb_3_2 (And.intro hb_3_2 (And.intro hb_3_2 (And.intro hb_3_3 (And.intro hb_3_3 (And.intro hb_3_2 (And.intro hb_3_3 (And.intro hb_3_2 trivial)))))))))))))) (by kernel_rfl) (by kernel_rfl) ?_
                obtain rfl := Option.some.inj h
                exact Into.mk
              · refine Wp.reg tiok mix hc (by kernel_rfl) (ah := none) (rs := [some (.no), some (.no), some (.no), some (.no), some (.no), some (.cond true), some (.no), some (.no), some (.no), some (.cond false), some (.no), some (.no), some (.no), some (.no), none, none, some (.cond false), some (.cond false), some (.no)]) (kt := [12]) (ko := []) (T' := [(12, .bool false)]) (O' := []) (by kernel_rfl) (And.intro hb_3_0 (And.intro hb_3_0 (And.intro hb_3_0 (And.intro hb_3_1 (And.intro hb_3_1 (And.intro hb_3_1 (And.intro hb_3_2 (And.intro hb_3_2 (And.intro hb_3_2 (And.intro (neT hb_3_3 : (op0 == 12) ≠ true) (And.intro (neT hb_3_3 : (op0 == 12) ≠ true) (And.intro hb_3_2 (And.intro hb_3_3 (And.intro hb_3_2 trivial)))))))))))))) (by kernel_rfl) (by kernel_rfl) ?_
                obtain rfl := Option.some.inj h
                exact Into.mk
        · rcases itesome h with ⟨hb_3_1, h⟩ | ⟨hb_3_1, h⟩
          · refine Wp.reg tiok mix hc (by kernel_rfl) (ah := none) (rs := [some (.no), some (.no), some (.no), none, none, some (.cond false), some (.no), some (.no), some (.no), some (.cond false), some (.no), none, none, none, none, none, none, some (.cond true), some (.no)]) (kt := [12]) (ko := []) (T' := [(12, .bool true)]) (O' := []) (by kernel_rfl) (And.intro (neT hb_3_0 : (op0 == 8) ≠ true) (And.intro (neT hb_3_0 : (op0 == 8) ≠ true) (And.intro hb_3_0 (And.intro (rfl : false = false) (And.intro (rfl : false = false) (And.intro (rfl : false = false) (And.intro (neF hb_3_1 : (op0 == 9) ≠ false) (And.intro (neF hb_3_1 : (op0 == 9) ≠ false) (And.intro (neF hb_3_1 : (op0 == 9) ≠ false) (And.intro (neF hb_3_1 : (op0 == 9) ≠ false) (And.intro hb_3_1 trivial))))))))))) (by kernel_rfl) (by kernel_rfl) ?_
            obtain rfl := Option.some.inj h
            exact Into.mk
          · rcases itesome h with ⟨hb_3_2, h⟩ | ⟨hb_3_2, h⟩
            · refine Wp.reg tiok mix hc (by kernel_rfl) (ah := none) (rs := [some (.no), some (.no), some (.no), none, none, some (.cond false), some (.no), some (.no), some (.no), some (.cond false), some (.no), some (.no), some (.no), some (.no), some (.no), some (.no), some (.cond true), some (.cond false), some (.no)]) (kt := [12]) (ko := []) (T' := [(12, .bool (kid1 == 1))]) (O' := []) (by kernel_rfl) (And.intro (neT hb_3_0 : (op0 == 8) ≠ true) (And.intro (neT hb_3_0 : (op0 == 8) ≠ true) (And.intro hb_3_0 (And.intro (rfl : false = false) (And.intro (rfl : false = false) (And.intro (rfl : false = false) (And.intro hb_3_1 (And.intro hb_3_1 (And.intro hb_3_1 (And.intro hb_3_2 (And.intro hb_3_2 (And.intro hb_3_1 (And.intro hb_3_2 (And.intro hb_3_1 trivial)))))))))))))) (by kernel_rfl) (by kernel_rfl) ?_
              obtain rfl := Option.some.inj h
              exact Into.mk
            · refine Wp.reg tiok mix hc (by kernel_rfl) (ah := none) (rs := [some (.no), some (.no), some (.no), none, none, some (.cond false), some (.no), some (.no), some (.no), some (.cond false), some (.no), some (.no), some (.no), some (.no), none, none, some (.cond false), some (.cond false), some (.no)]) (kt := [12]) (ko := []) (T' := [(12, .bool false)]) (O' := []) (by kernel_rfl) (And.intro (neT hb_3_0 : (op0 == 8) ≠ true) (And.intro (neT hb_3_0 : (op0 == 8) ≠ true) (And.intro hb_3_0 (And.intro (rfl : false = false) (And.intro (rfl : false = false) (And.intro (rfl : false = false) (And.intro hb_3_1 (And.intro hb_3_1 (And.intro hb_3_1 (And.intro (neT hb_3_2 : (op0 == 12) ≠ true) (And.intro (neT hb_3_2 : (op0 == 12) ≠ true) (And.intro hb_3_1 (And.intro hb_3_2 (And.intro hb_3_1 trivial)))))))))))))) (by kernel_rfl) (by kernel_rfl) ?_
              obtain rfl := Option.some.inj h
              exact Into.mk
      · clear hj_5
        refine seqQ_norm ?_
        rcases itesome h with ⟨hb_6, h⟩ | ⟨hb_6, h⟩
        · refine Wp.condT (b := v_4) (by kernel_rfl) (by kernel_rfl) hb_6 ?_
          refine Wp.seqN (by kernel_rfl) ?_
          refine Wp.reg tiok mix hc (by kernel_rfl) (ah := none) (rs := [some (.no)]) (kt := [4]) (ko := []) (T' := [(4, .int .i64 1)]) (O' := []) (by kernel_rfl) trivial (by kernel_rfl) (by kernel_rfl) ?_
          refine seqQ_norm ?_
          refine Wp.retN (by kernel_rfl) ?_
          refine blockQ_ret ?_
          refine seqQ_ret ?_
          obtain rfl := Option.some.inj h
          exact RetQ.ret (fl := [true]) (by kernel_rfl)
        · refine Wp.condF (b := v_4) (by kernel_rfl) (by kernel_rfl) hb_6 ?_
          refine Wp.skipN (by kernel_rfl) ?_
          refine blockQ_norm ?_
          refine seqQ_norm ?_
          refine Wp.seqN (by kernel_rfl) ?_
          refine Wp.reg tiok mix hc (by kernel_rfl) (ah := none) (rs := [some (.no)]) (kt := [4]) (ko := []) (T' := [(4, .int .i64 0)]) (O' := []) (by kernel_rfl) trivial (by kernel_rfl) (by kernel_rfl) ?_
          refine seqQ_norm ?_
          refine Wp.retN (by kernel_rfl) ?_
          obtain rfl := Option.some.inj h
          exact RetQ.ret (fl := [true]) (by kernel_rfl)
def spec_l2Term_F1 (c : Ctx) : (Unit) ⊕ (Bool) → Exit → AState → Prop
  | .inl _ => Into c (.exit 0) (mkS [] [])
  | .inr r => RetE TIx Try.f85 [] (.bool r)
end Go.Am
