/- Functions of the program as pure functions, and that it computes them. Printed by a program of mine (gen.py). -/
import Derived.Test.YtfakfcaegabgaaaGVAF1
set_option linter.unusedVariables false
set_option linter.unusedSimpArgs false
set_option maxRecDepth 100000
namespace Go.Am
open Go Go.Proofs
def spec_l2Grade (c0 : Int) : Option (Int) :=
    if (decide (c0 ≥ 35)) = true then
      some (-1)
    else
      if (decide (c0 ≥ 19)) = true then
        some (wr (c0 - 19))
      else
        some (wr (c0 - 3))
def M_spec_l2Grade (c0 : Int) (r : Int) : Prop :=
  FnSound Try.prog 101 [.int .i64 c0] (.int .i64 r) []
theorem spec_l2Grade_s : ∀ p r, spec_l2Grade p = some r → M_spec_l2Grade p r := by
  rintro c0 r h
  unfold spec_l2Grade at h
  show FnSound Try.prog 101 [.int .i64 c0] (.int .i64 r) []
  refine FnSound.body0 tiok (fn := Try.f101) (code := B101) (by kernel_rfl) (by kernel_rfl) (by kernel_rfl) (by kernel_rfl) (nt := 13) (by kernel_rfl) (by kernel_rfl) (T := [(0, .int .i64 c0)]) (O := []) (by kernel_rfl) (by kernel_rfl) (fun c hc => ?_)
  refine Wp.seqN (by kernel_rfl) ?_
  refine Wp.reg tiok mix hc (by kernel_rfl) (ah := none) (rs := [some (.no)]) (kt := [0]) (ko := []) (T' := [(0, .int .i64 c0)]) (O' := []) (by kernel_rfl) trivial (by kernel_rfl) (by kernel_rfl) ?_
  refine seqQ_norm ?_
  refine Wp.seqN (by kernel_rfl) ?_
  refine Wp.blockN (i := 0) (by kernel_rfl) ?_
  refine Wp.seqN (by kernel_rfl) ?_
  refine Wp.reg tiok mix hc (by kernel_rfl) (ah := none) (rs := [some (.no), some (.no), some (.no)]) (kt := [0, 3]) (ko := []) (T' := [(0, .int .i64 c0), (3, .bool (decide (c0 ≥ 35)))]) (O' := []) (by kernel_rfl) trivial (by kernel_rfl) (by kernel_rfl) ?_
  refine seqQ_norm ?_
  rcases itesome h with ⟨hb_1, h⟩ | ⟨hb_1, h⟩
  · refine Wp.condT (b := (decide (c0 ≥ 35))) (by kernel_rfl) (by kernel_rfl) hb_1 ?_
    refine Wp.seqN (by kernel_rfl) ?_
    refine Wp.reg tiok mix hc (by kernel_rfl) (ah := none) (rs := [some (.no)]) (kt := [2]) (ko := []) (T' := [(2, .int .i64 (-1))]) (O' := []) (by kernel_rfl) trivial (by kernel_rfl) (by kernel_rfl) ?_
    refine seqQ_norm ?_
    refine Wp.retN (by kernel_rfl) ?_
    refine blockQ_ret ?_
    refine seqQ_ret ?_
    obtain rfl := Option.some.inj h
    exact RetQ.ret (fl := [true]) (by kernel_rfl)
  · refine Wp.condF (b := (decide (c0 ≥ 35))) (by kernel_rfl) (by kernel_rfl) hb_1 ?_
    refine Wp.seqN (by kernel_rfl) ?_
    refine Wp.reg tiok mix hc (by kernel_rfl) (ah := none) (rs := [some (.no), some (.no), some (.no)]) (kt := [0, 6]) (ko := []) (T' := [(0, .int .i64 c0), (6, .bool (decide (c0 ≥ 19)))]) (O' := []) (by kernel_rfl) trivial (by kernel_rfl) (by kernel_rfl) ?_
    refine seqQ_norm ?_
    rcases itesome h with ⟨hb_2, h⟩ | ⟨hb_2, h⟩
    · refine Wp.condT (b := (decide (c0 ≥ 19))) (by kernel_rfl) (by kernel_rfl) hb_2 ?_
      refine Wp.seqN (by kernel_rfl) ?_
      refine Wp.reg tiok mix hc (by kernel_rfl) (ah := none) (rs := [some (.no), some (.no), some (.no)]) (kt := [2]) (ko := []) (T' := [(2, .int .i64 (wr (c0 - 19)))]) (O' := []) (by kernel_rfl) trivial (by kernel_rfl) (by kernel_rfl) ?_
      refine seqQ_norm ?_
      refine Wp.retN (by kernel_rfl) ?_
      refine blockQ_ret ?_
      refine seqQ_ret ?_
      obtain rfl := Option.some.inj h
      exact RetQ.ret (fl := [true]) (by kernel_rfl)
    · refine Wp.condF (b := (decide (c0 ≥ 19))) (by kernel_rfl) (by kernel_rfl) hb_2 ?_
      refine Wp.skipN (by kernel_rfl) ?_
      refine blockQ_norm ?_
      refine seqQ_norm ?_
      refine Wp.seqN (by kernel_rfl) ?_
      refine Wp.reg tiok mix hc (by kernel_rfl) (ah := none) (rs := [some (.no), some (.no), some (.no)]) (kt := [2]) (ko := []) (T' := [(2, .int .i64 (wr (c0 - 3)))]) (O' := []) (by kernel_rfl) trivial (by kernel_rfl) (by kernel_rfl) ?_
      refine seqQ_norm ?_
      refine Wp.retN (by kernel_rfl) ?_
      obtain rfl := Option.some.inj h
      exact RetQ.ret (fl := [true]) (by kernel_rfl)
def spec_l2Graded_F1 (c : Ctx) (ty0 : List Int) (size1 : Int) (closed2 : Bool) (i_9 : Int) : (Unit) ⊕ (Bool) → Exit → AState → Prop
  | .inl _ => Into c .normal (mkS [(0, .sl (List.map I ty0)), (1, .int .i64 size1), (2, .bool closed2), (7, .int .i64 i_9)] [])
  | .inr r => RetE TIx Try.f87 [] (.bool r)
def spec_l2Graded_F2 (c : Ctx) : (Unit) ⊕ (Bool) → Exit → AState → Prop
  | .inl _ => Into c (.exit 0) (mkS [] [])
  | .inr r => RetE TIx Try.f87 [] (.bool r)
def spec_l2Graded_l0 (p : (List Int) × Int × Bool × Int) : Option ((Unit) ⊕ (Bool)) :=
  match p with
  | (ty0, size1, closed2, i_9) =>
    if (decide (i_9 < (ty0.length : Int))) = true then
      (
        (idx ty0 i_9) >>= fun e_4_2 =>
        (spec_l2Kids e_4_2) >>= fun r_4_4 =>
        if (decide (r_4_4 > 0)) = true then
          (idx ty0 i_9) >>= fun e_4_9 =>
          some ((decide (e_4_9 > 2)))
        else
          some (false)
      ) >>= fun v_11 =>
      ((
        if v_11 = true then
          (idx ty0 i_9) >>= fun e_5_2 =>
          (spec_l2Grade e_5_2) >>= fun r_5_4 =>
          (
            if (decide (r_5_4 ≥ size1)) = true then
              some (true)
            else
              if closed2 = true then
                some ((decide (r_5_4 < 0)))
              else
                some (false)
          ) >>= fun v_14 =>
          if v_14 = true then
            some (.inr false)
          else
            some (.inl ())
        else
          some (.inl ())) : Option ((Unit) ⊕ (Bool))) >>= fun fl => match fl with
      | .inl () =>
        spec_l2Graded_l0 (ty0, size1, closed2, (wr (i_9 + 1)))
      | .inr r =>
        some (.inr r)
    else
      some (.inl ())
  partial_fixpoint
def M_spec_l2Graded_l0 (p : (List Int) × Int × Bool × Int) (fl : (Unit) ⊕ (Bool)) : Prop :=
  match p with
  | (ty0, size1, closed2, i_9) => ∀ c : Ctx, c.nt = 43 → WpL Try.prog c (cl (cl (cr (cl (cr B87))))) (spec_l2Graded_F2 c fl) (mkS [(0, .sl (List.map I ty0)), (1, .int .i64 size1), (2, .bool closed2), (7, .int .i64 i_9)] [])
theorem spec_l2Graded_l0_s : ∀ p r, spec_l2Graded_l0 p = some r → M_spec_l2Graded_l0 p r := by
  refine spec_l2Graded_l0.partial_correctness M_spec_l2Graded_l0 ?_
  rintro spec_l2Graded_l0_f spec_l2Graded_l0_ih ⟨ty0, size1, closed2, i_9⟩ r h
  intro c hc
  show WpL Try.prog c (cl (cl (cr (cl (cr B87))))) (spec_l2Graded_F2 c r) (mkS [(0, .sl (List.map I ty0)), (1, .int .i64 size1), (2, .bool closed2), (7, .int .i64 i_9)] [])
  refine WpL.step ?_
  refine Wp.seqN (by kernel_rfl) ?_
  refine Wp.seqN (by kernel_rfl) ?_
  refine Wp.reg tiok mix hc (by kernel_rfl) (ah := none) (rs := [some (.no), some (.no), some (.eqv (.no) ⟨[(11, .int .i64 (ty0.length : Int))], [], []⟩), some (.no)]) (kt := [0, 1, 2, 7, 12]) (ko := []) (T' := [(0, .sl (List.map I ty0)), (1, .int .i64 size1), (2, .bool closed2), (7, .int .i64 i_9), (12, .bool (decide (i_9 < (ty0.length : Int))))]) (O' := []) (by kernel_rfl) (And.intro (lenT (d := 11) I ty0) trivial) (by kernel_rfl) (by kernel_rfl) ?_
  refine seqQ_norm ?_
  rcases itesome h with ⟨hb_10, h⟩ | ⟨hb_10, h⟩
  · refine Wp.condT (b := (decide (i_9 < (ty0.length : Int)))) (by kernel_rfl) (by kernel_rfl) hb_10 ?_
    refine Wp.skipN (by kernel_rfl) ?_
    refine seqQ_norm ?_
    refine Wp.seqN (by kernel_rfl) ?_
    refine Wp.blockN (i := 1) (by kernel_rfl) ?_
    refine Wp.seqN (by kernel_rfl) ?_
    obtain ⟨v_11, hj_12, h⟩ := bsome h
    refine Wp.into (x := .normal) (mkS [(0, .sl (List.map I ty0)), (1, .int .i64 size1), (2, .bool closed2), (7, .int .i64 i_9), (27, .bool v_11)] []) ?_ ?_
    · replace h := hj_12
      obtain ⟨e_4_2, hi_4_2, h⟩ := bsome h
      obtain ⟨r_4_4, hr_4_4, h⟩ := bsome h
      rcases itesome h with ⟨hb_4_0, h⟩ | ⟨hb_4_0, h⟩
      · obtain ⟨e_4_9, hi_4_9, h⟩ := bsome h
        refine Wp.reg tiok mix hc (by kernel_rfl) (ah := none) (rs := [some (.no), some (.no), some (.el (.int .i64 e_4_2)), some (.no), some (.call (.int .i64 r_4_4) [] 1), some (.no), some (.no), some (.no), some (.no), some (.el (.int .i64 e_4_9)), some (.no), some (.no), some (.cond true)]) (kt := [0, 1, 2, 7, 27]) (ko := []) (T' := [(0, .sl (List.map I ty0)), (1, .int .i64 size1), (2, .bool closed2), (7, .int .i64 i_9), (27, .bool (decide (e_4_9 > 2)))]) (O' := []) (by kernel_rfl) (And.intro (idx_sl (enc := I) (x := .int .i64 e_4_2) hi_4_2 (eq_I e_4_2)) (And.intro (spec_l2Kids_s _ _ hr_4_4) (And.intro bod_136 (And.intro (Or.inl rfl : ([] : List Nat) = [] ∨ noSh (.int .i64 r_4_4) = true) (And.intro hb_4_0 (And.intro hb_4_0 (And.intro hb_4_0 (And.intro (idx_sl (enc := I) (x := .int .i64 e_4_9) hi_4_9 (eq_I e_4_9)) (And.intro hb_4_0 (And.intro hb_4_0 (And.intro hb_4_0 trivial))))))))))) (by kernel_rfl) (by kernel_rfl) ?_
        obtain rfl := Option.some.inj h
        exact Into.mk
      · refine Wp.reg tiok mix hc (by kernel_rfl) (ah := none) (rs := [some (.no), some (.no), some (.el (.int .i64 e_4_2)), some (.no), some (.call (.int .i64 r_4_4) [] 1), some (.no), some (.no), none, none, none, none, none, some (.cond false)]) (kt := [0, 1, 2, 7, 27]) (ko := []) (T' := [(0, .sl (List.map I ty0)), (1, .int .i64 size1), (2, .bool closed2), (7, .int .i64 i_9), (27, .bool false)]) (O' := []) (by kernel_rfl) (And.intro (idx_sl (enc := I) (x := .int .i64 e_4_2) hi_4_2 (eq_I e_4_2)) (And.intro (spec_l2Kids_s _ _ hr_4_4) (And.intro bod_136 (And.intro (Or.inl rfl : ([] : List Nat) = [] ∨ noSh (.int .i64 r_4_4) = true) (And.intro (neT hb_4_0 : (decide (r_4_4 > 0)) ≠ true) (And.intro (neT hb_4_0 : (decide (r_4_4 > 0)) ≠ true) (And.intro (neT hb_4_0 : (decide (r_4_4 > 0)) ≠ true) (And.intro (neT hb_4_0 : (decide (r_4_4 > 0)) ≠ true) (And.intro (neT hb_4_0 : (decide (r_4_4 > 0)) ≠ true) (And.intro hb_4_0 trivial)))))))))) (by kernel_rfl) (by kernel_rfl) ?_
        obtain rfl := Option.some.inj h
        exact Into.mk
    · clear hj_12
      refine seqQ_norm ?_
      obtain ⟨fl, hj_17, h⟩ := bsome h
      have hF : Wp Try.prog c (cr (cl (cl (cr (cl (cl (cr (cl (cr B87))))))))) (spec_l2Graded_F1 c ty0 size1 closed2 i_9 fl) (mkS [(0, .sl (List.map I ty0)), (1, .int .i64 size1), (2, .bool closed2), (7, .int .i64 i_9), (27, .bool v_11)] []) := by
        replace h := hj_17
        rcases itesome h with ⟨hb_13, h⟩ | ⟨hb_13, h⟩
        · refine Wp.condT (b := v_11) (by kernel_rfl) (by kernel_rfl) hb_13 ?_
          refine Wp.seqN (by kernel_rfl) ?_
          obtain ⟨e_5_2, hi_5_2, h⟩ := bsome h
          obtain ⟨r_5_4, hr_5_4, h⟩ := bsome h
          refine Wp.reg tiok mix hc (by kernel_rfl) (ah := none) (rs := [some (.no), some (.no), some (.el (.int .i64 e_5_2)), some (.no), some (.call (.int .i64 r_5_4) [] 1), some (.no)]) (kt := [0, 1, 2, 7, 8]) (ko := []) (T' := [(0, .sl (List.map I ty0)), (1, .int .i64 size1), (2, .bool closed2), (7, .int .i64 i_9), (8, .int .i64 r_5_4)]) (O' := []) (by kernel_rfl) (And.intro (idx_sl (enc := I) (x := .int .i64 e_5_2) hi_5_2 (eq_I e_5_2)) (And.intro (spec_l2Grade_s _ _ hr_5_4) (And.intro bod_101 (And.intro (Or.inl rfl : ([] : List Nat) = [] ∨ noSh (.int .i64 r_5_4) = true) trivial)))) (by kernel_rfl) (by kernel_rfl) ?_
          refine seqQ_norm ?_
          refine Wp.seqN (by kernel_rfl) ?_
          obtain ⟨v_14, hj_15, h⟩ := bsome h
          refine Wp.into (x := .normal) (mkS [(0, .sl (List.map I ty0)), (1, .int .i64 size1), (2, .bool closed2), (7, .int .i64 i_9), (42, .bool v_14)] []) ?_ ?_
          · replace h := hj_15
            rcases itesome h with ⟨hb_6_0, h⟩ | ⟨hb_6_0, h⟩
            · refine Wp.reg tiok mix hc (by kernel_rfl) (ah := none) (rs := [some (.no), some (.no), some (.no), some (.no), none, none, none, none, none, some (.cond true)]) (kt := [0, 1, 2, 7, 42]) (ko := []) (T' := [(0, .sl (List.map I ty0)), (1, .int .i64 size1), (2, .bool closed2), (7, .int .i64 i_9), (42, .bool true)]) (O' := []) (by kernel_rfl) (And.intro (neF hb_6_0 : (decide (r_5_4 ≥ size1)) ≠ false) (And.intro (neF hb_6_0 : (decide (r_5_4 ≥ size1)) ≠ false) (And.intro (neF hb_6_0 : (decide (r_5_4 ≥ size1)) ≠ false) (And.intro hb_6_0 trivial)))) (by kernel_rfl) (by kernel_rfl) ?_
              obtain rfl := Option.some.inj h
              exact Into.mk
            · rcases itesome h with ⟨hb_6_1, h⟩ | ⟨hb_6_1, h⟩
              · refine Wp.reg tiok mix hc (by kernel_rfl) (ah := none) (rs := [some (.no), some (.no), some (.no), some (.no), some (.no), some (.no), some (.no), some (.no), some (.cond true), some (.cond false)]) (kt := [0, 1, 2, 7, 42]) (ko := []) (T' := [(0, .sl (List.map I ty0)), (1, .int .i64 size1), (2, .bool closed2), (7, .int .i64 i_9), (42, .bool (decide (r_5_4 < 0)))]) (O' := []) (by kernel_rfl) (And.intro hb_6_0 (And.intro hb_6_0 (And.intro hb_6_1 (And.intro hb_6_1 (And.intro hb_6_0 (And.intro hb_6_1 (And.intro hb_6_0 trivial))))))) (by kernel_rfl) (by kernel_rfl) ?_
                obtain rfl := Option.some.inj h
                exact Into.mk
              · refine Wp.reg tiok mix hc (by kernel_rfl) (ah := none) (rs := [some (.no), some (.no), some (.no), some (.no), some (.no), some (.no), none, none, some (.cond false), some (.cond false)]) (kt := [0, 1, 2, 7, 42]) (ko := []) (T' := [(0, .sl (List.map I ty0)), (1, .int .i64 size1), (2, .bool closed2), (7, .int .i64 i_9), (42, .bool false)]) (O' := []) (by kernel_rfl) (And.intro hb_6_0 (And.intro hb_6_0 (And.intro (neT hb_6_1 : closed2 ≠ true) (And.intro (neT hb_6_1 : closed2 ≠ true) (And.intro hb_6_0 (And.intro hb_6_1 (And.intro hb_6_0 trivial))))))) (by kernel_rfl) (by kernel_rfl) ?_
                obtain rfl := Option.some.inj h
                exact Into.mk
          · clear hj_15
            refine seqQ_norm ?_
            rcases itesome h with ⟨hb_16, h⟩ | ⟨hb_16, h⟩
            · refine Wp.condT (b := v_14) (by kernel_rfl) (by kernel_rfl) hb_16 ?_
              refine Wp.seqN (by kernel_rfl) ?_
              refine Wp.reg tiok mix hc (by kernel_rfl) (ah := none) (rs := [some (.no)]) (kt := [6]) (ko := []) (T' := [(6, .bool false)]) (O' := []) (by kernel_rfl) trivial (by kernel_rfl) (by kernel_rfl) ?_
              refine seqQ_norm ?_
              refine Wp.retN (by kernel_rfl) ?_
              obtain rfl := Option.some.inj h
              exact RetE.ret (fl := [true]) (by kernel_rfl)
            · refine Wp.condF (b := v_14) (by kernel_rfl) (by kernel_rfl) hb_16 ?_
              refine Wp.skipN (by kernel_rfl) ?_
              obtain rfl := Option.some.inj h
              exact Into.view (fun a w hv => SRx.renL [] hv (by kernel_rfl) (by kernel_rfl) (by kernel_rfl))
        · refine Wp.condF (b := v_11) (by kernel_rfl) (by kernel_rfl) hb_13 ?_
          refine Wp.skipN (by kernel_rfl) ?_
          obtain rfl := Option.some.inj h
          exact Into.view (fun a w hv => SRx.renL [] hv (by kernel_rfl) (by kernel_rfl) (by kernel_rfl))
      rcases fl with ⟨⟩ | r
      · refine Wp.into (x := .normal) (mkS [(0, .sl (List.map I ty0)), (1, .int .i64 size1), (2, .bool closed2), (7, .int .i64 i_9)] []) hF ?_
        refine blockQ_norm ?_
        refine seqQ_norm ?_
        refine Wp.reg tiok mix hc (by kernel_rfl) (ah := none) (rs := [some (.no), some (.no), some (.no)]) (kt := [0, 1, 2, 7]) (ko := []) (T' := [(0, .sl (List.map I ty0)), (1, .int .i64 size1), (2, .bool closed2), (7, .int .i64 (wr (i_9 + 1)))]) (O' := []) (by kernel_rfl) trivial (by kernel_rfl) (by kernel_rfl) ?_
        refine loopQ_norm ?_
        exact (spec_l2Graded_l0_ih _ _ h c hc)
      · refine Wp.mono hF ?_
        rintro _ _ ⟨rfl, hfin⟩
        refine blockQ_ret ?_
        refine seqQ_ret ?_
        refine loopQ_ret ?_
        obtain rfl := Option.some.inj h
        exact ⟨rfl, hfin⟩
  · refine Wp.condF (b := (decide (i_9 < (ty0.length : Int)))) (by kernel_rfl) (by kernel_rfl) hb_10 ?_
    refine Wp.exitN (i := 0) (by kernel_rfl) ?_
    refine seqQ_exit ?_
    refine loopQ_exit ?_
    obtain rfl := Option.some.inj h
    exact Into.view (fun a w hv => SRx.renL [] hv (by kernel_rfl) (by kernel_rfl) (by kernel_rfl))
def spec_l2Graded (p : (List Int) × Int × Bool) : Option (Bool) :=
  match p with
  | (ty0, size1, closed2) =>
    (spec_l2Graded_l0 (ty0, size1, closed2, 0)) >>= fun fl => match fl with
    | .inl () =>
      some true
    | .inr r =>
      some r
def M_spec_l2Graded (p : (List Int) × Int × Bool) (r : Bool) : Prop :=
  match p with
  | (ty0, size1, closed2) => FnSound Try.prog 87 [.sl (List.map I ty0), .int .i64 size1, .bool closed2] (.bool r) []
theorem spec_l2Graded_s : ∀ p r, spec_l2Graded p = some r → M_spec_l2Graded p r := by
  rintro ⟨ty0, size1, closed2⟩ r h
  unfold spec_l2Graded at h
  show FnSound Try.prog 87 [.sl (List.map I ty0), .int .i64 size1, .bool closed2] (.bool r) []
  refine FnSound.body0 tiok (fn := Try.f87) (code := B87) (by kernel_rfl) (by kernel_rfl) (by kernel_rfl) (by kernel_rfl) (nt := 43) (by kernel_rfl) (by kernel_rfl) (T := [(0, .sl (List.map I ty0)), (1, .int .i64 size1), (2, .bool closed2)]) (O := []) (by kernel_rfl) (by kernel_rfl) (fun c hc => ?_)
  refine Wp.seqN (by kernel_rfl) ?_
  refine Wp.reg tiok mix hc (by kernel_rfl) (ah := none) (rs := [some (.no)]) (kt := [0, 1, 2]) (ko := []) (T' := [(0, .sl (List.map I ty0)), (1, .int .i64 size1), (2, .bool closed2)]) (O' := []) (by kernel_rfl) trivial (by kernel_rfl) (by kernel_rfl) ?_
  refine seqQ_norm ?_
  refine Wp.seqN (by kernel_rfl) ?_
  refine Wp.seqN (by kernel_rfl) ?_
  refine Wp.reg tiok mix hc (by kernel_rfl) (ah := none) (rs := [some (.no)]) (kt := [0, 1, 2, 7]) (ko := []) (T' := [(0, .sl (List.map I ty0)), (1, .int .i64 size1), (2, .bool closed2), (7, .int .i64 0)]) (O' := []) (by kernel_rfl) trivial (by kernel_rfl) (by kernel_rfl) ?_
  refine seqQ_norm ?_
  refine Wp.blockN (i := 0) (by kernel_rfl) ?_
  obtain ⟨fl, hl_18, h⟩ := bsome h
  have hL := spec_l2Graded_l0_s _ _ hl_18 c hc
  refine Wp.loopN (by kernel_rfl) ?_
  rcases fl with ⟨⟩ | r
  · refine WpL.into (e := (.exit 0)) (mkS [] []) hL ?_
    refine blockQ_hit ?_
    refine seqQ_norm ?_
    refine Wp.seqN (by kernel_rfl) ?_
    refine Wp.reg tiok mix hc (by kernel_rfl) (ah := none) (rs := [some (.no)]) (kt := [6]) (ko := []) (T' := [(6, .bool true)]) (O' := []) (by kernel_rfl) trivial (by kernel_rfl) (by kernel_rfl) ?_
    refine seqQ_norm ?_
    refine Wp.retN (by kernel_rfl) ?_
    obtain rfl := Option.some.inj h
    exact RetQ.ret (fl := [true]) (by kernel_rfl)
  · refine WpL.mono hL ?_
    rintro _ _ ⟨rfl, hfin⟩
    refine blockQ_ret ?_
    refine seqQ_ret ?_
    obtain rfl := Option.some.inj h
    exact ⟨.inl rfl, hfin⟩
def spec_IsType (p : GSystem × (List Int)) : Option (Bool) :=
  match p with
  | (s0, ty1) =>
    (
      (spec_IsSystem s0) >>= fun r_1_1 =>
      if r_1_1 = true then
        (spec_l2Type ty1) >>= fun r_1_4 =>
        if r_1_4 = true then
          (spec_l2Graded (ty1, s0.fSize, true)) >>= fun r_1_10 =>
          some (r_1_10)
        else
          some (false)
      else
        some (false)
    ) >>= fun v_1 =>
    some v_1
def M_spec_IsType (p : GSystem × (List Int)) (r : Bool) : Prop :=
  match p with
  | (s0, ty1) => FnSound Try.prog 44 [.agg [.int .i64 s0.fSize, .sl (List.map I s0.fPlus), .sl (List.map I s0.fTimes), .sl (List.map AV.bool s0.fBelow)], .sl (List.map I ty1)] (.bool r) []
theorem spec_IsType_s : ∀ p r, spec_IsType p = some r → M_spec_IsType p r := by
  rintro ⟨s0, ty1⟩ r h
  unfold spec_IsType at h
  show FnSound Try.prog 44 [.agg [.int .i64 s0.fSize, .sl (List.map I s0.fPlus), .sl (List.map I s0.fTimes), .sl (List.map AV.bool s0.fBelow)], .sl (List.map I ty1)] (.bool r) []
  refine FnSound.body0 tiok (fn := Try.f44) (code := B44) (by kernel_rfl) (by kernel_rfl) (by kernel_rfl) (by kernel_rfl) (nt := 17) (by kernel_rfl) (by kernel_rfl) (T := [(0, .agg [.int .i64 s0.fSize, .sl (List.map I s0.fPlus), .sl (List.map I s0.fTimes), .sl (List.map AV.bool s0.fBelow)]), (1, .sl (List.map I ty1))]) (O := []) (by kernel_rfl) (by kernel_rfl) (fun c hc => ?_)
  refine Wp.seqN (by kernel_rfl) ?_
  refine Wp.reg tiok mix hc (by kernel_rfl) (ah := none) (rs := [some (.new 1), some (.no)]) (kt := [1, 2]) (ko := [1]) (T' := [(1, .sl (List.map I ty1)), (2, .ra 1 0)]) (O' := [(1, .box [.int .i64 s0.fSize, .sl (List.map I s0.fPlus), .sl (List.map I s0.fTimes), .sl (List.map AV.bool s0.fBelow)])]) (by kernel_rfl) trivial (by kernel_rfl) (by kernel_rfl) ?_
  refine seqQ_norm ?_
  refine Wp.seqN (by kernel_rfl) ?_
  obtain ⟨v_1, hj_2, h⟩ := bsome h
  refine Wp.into (x := .normal) (mkS [(4, .bool v_1)] []) ?_ ?_
  · replace h := hj_2
    obtain ⟨r_1_1, hr_1_1, h⟩ := bsome h
    rcases itesome h with ⟨hb_1_0, h⟩ | ⟨hb_1_0, h⟩
    · obtain ⟨r_1_4, hr_1_4, h⟩ := bsome h
      rcases itesome h with ⟨hb_1_1, h⟩ | ⟨hb_1_1, h⟩
      · obtain ⟨r_1_10, hr_1_10, h⟩ := bsome h
        refine Wp.reg tiok mix hc (by kernel_rfl) (ah := none) (rs := [some (.no), some (.call (.bool r_1_1) [] 1), some (.no), some (.no), some (.call (.bool r_1_4) [] 1), some (.cond true), some (.no), some (.no), some (.no), some (.no), some (.call (.bool r_1_10) [] 1), some (.cond true), some (.no)]) (kt := [4]) (ko := []) (T' := [(4, .bool r_1_10)]) (O' := []) (by kernel_rfl) (And.intro (spec_IsSystem_s _ _ hr_1_1) (And.intro bod_98 (And.intro (Or.inl rfl : ([] : List Nat) = [] ∨ noSh (.bool r_1_1) = true) (And.intro hb_1_0 (And.intro hb_1_0 (And.intro (spec_l2Type_s _ _ hr_1_4) (And.intro bod_86 (And.intro (Or.inl rfl : ([] : List Nat) = [] ∨ noSh (.bool r_1_4) = true) (And.intro hb_1_0 (And.intro hb_1_1 (And.intro hb_1_1 (And.intro hb_1_1 (And.intro hb_1_1 (And.intro (spec_l2Graded_s _ _ hr_1_10) (And.intro bod_87 (And.intro (Or.inl rfl : ([] : List Nat) = [] ∨ noSh (.bool r_1_10) = true) (And.intro hb_1_1 trivial))))))))))))))))) (by kernel_rfl) (by kernel_rfl) ?_
        obtain rfl := Option.some.inj h
        exact Into.mk
      · refine Wp.reg tiok mix hc (by kernel_rfl) (ah := none) (rs := [some (.no), some (.call (.bool r_1_1) [] 1), some (.no), some (.no), some (.call (.bool r_1_4) [] 1), some (.cond true), some (.no), none, none, none, none, some (.cond false), some (.no)]) (kt := [4]) (ko := []) (T' := [(4, .bool false)]) (O' := []) (by kernel_rfl) (And.intro (spec_IsSystem_s _ _ hr_1_1) (And.intro bod_98 (And.intro (Or.inl rfl : ([] : List Nat) = [] ∨ noSh (.bool r_1_1) = true) (And.intro hb_1_0 (And.intro hb_1_0 (And.intro (spec_l2Type_s _ _ hr_1_4) (And.intro bod_86 (And.intro (Or.inl rfl : ([] : List Nat) = [] ∨ noSh (.bool r_1_4) = true) (And.intro hb_1_0 (And.intro (neT hb_1_1 : r_1_4 ≠ true) (And.intro (neT hb_1_1 : r_1_4 ≠ true) (And.intro (neT hb_1_1 : r_1_4 ≠ true) (And.intro (neT hb_1_1 : r_1_4 ≠ true) (And.intro hb_1_1 trivial)))))))))))))) (by kernel_rfl) (by kernel_rfl) ?_
        obtain rfl := Option.some.inj h
        exact Into.mk
    · refine Wp.reg tiok mix hc (by kernel_rfl) (ah := none) (rs := [some (.no), some (.call (.bool r_1_1) [] 1), some (.no), none, none, some (.cond false), some (.no), none, none, none, none, some (.cond false), some (.no)]) (kt := [4]) (ko := []) (T' := [(4, .bool false)]) (O' := []) (by kernel_rfl) (And.intro (spec_IsSystem_s _ _ hr_1_1) (And.intro bod_98 (And.intro (Or.inl rfl : ([] : List Nat) = [] ∨ noSh (.bool r_1_1) = true) (And.intro (neT hb_1_0 : r_1_1 ≠ true) (And.intro (neT hb_1_0 : r_1_1 ≠ true) (And.intro hb_1_0 (And.intro (neT (rfl : false = false) : false ≠ true) (And.intro (neT (rfl : false = false) : false ≠ true) (And.intro (neT (rfl : false = false) : false ≠ true) (And.intro (neT (rfl : false = false) : false ≠ true) (And.intro (rfl : false = false) trivial))))))))))) (by kernel_rfl) (by kernel_rfl) ?_
      obtain rfl := Option.some.inj h
      exact Into.mk
  · clear hj_2
    refine seqQ_norm ?_
    refine Wp.retN (by kernel_rfl) ?_
    obtain rfl := Option.some.inj h
    exact RetQ.ret (fl := [true]) (by kernel_rfl)
def spec_l2Data_F1 (c : Ctx) : (Unit) ⊕ (Bool) → Exit → AState → Prop
  | .inl _ => Into c (.exit 0) (mkS [] [])
  | .inr r => RetE TIx Try.f121 [] (.bool r)
def spec_l2Data_l0 (p : (List Int) × Int) : Option ((Unit) ⊕ (Bool)) :=
  match p with
  | (ty0, i_3) =>
    if (decide (i_3 < (ty0.length : Int))) = true then
      (idx ty0 i_3) >>= fun e_4_2 =>
      (spec_l2Arrow e_4_2) >>= fun r_4_4 =>
      if r_4_4 = true then
        some (.inr false)
      else
        spec_l2Data_l0 (ty0, (wr (i_3 + 1)))
    else
      some (.inl ())
  partial_fixpoint
def M_spec_l2Data_l0 (p : (List Int) × Int) (fl : (Unit) ⊕ (Bool)) : Prop :=
  match p with
  | (ty0, i_3) => ∀ c : Ctx, c.nt = 15 → WpL Try.prog c (cl (cl (cr (cl (cr B121))))) (spec_l2Data_F1 c fl) (mkS [(0, .sl (List.map I ty0)), (3, .int .i64 i_3)] [])
theorem spec_l2Data_l0_s : ∀ p r, spec_l2Data_l0 p = some r → M_spec_l2Data_l0 p r := by
  refine spec_l2Data_l0.partial_correctness M_spec_l2Data_l0 ?_
  rintro spec_l2Data_l0_f spec_l2Data_l0_ih ⟨ty0, i_3⟩ r h
  intro c hc
  show WpL Try.prog c (cl (cl (cr (cl (cr B121))))) (spec_l2Data_F1 c r) (mkS [(0, .sl (List.map I ty0)), (3, .int .i64 i_3)] [])
  refine WpL.step ?_
  refine Wp.seqN (by kernel_rfl) ?_
  refine Wp.seqN (by kernel_rfl) ?_
  refine Wp.reg tiok mix hc (by kernel_rfl) (ah := none) (rs := [some (.no), some (.no), some (.eqv (.no) ⟨[(6, .int .i64 (ty0.length : Int))], [], []⟩), some (.no)]) (kt := [0, 3, 7]) (ko := []) (T' := [(0, .sl (List.map I ty0)), (3, .int .i64 i_3), (7, .bool (decide (i_3 < (ty0.length : Int))))]) (O' := []) (by kernel_rfl) (And.intro (lenT (d := 6) I ty0) trivial) (by kernel_rfl) (by kernel_rfl) ?_
  refine seqQ_norm ?_
  rcases itesome h with ⟨hb_4, h⟩ | ⟨hb_4, h⟩
  · refine Wp.condT (b := (decide (i_3 < (ty0.length : Int)))) (by kernel_rfl) (by kernel_rfl) hb_4 ?_
    refine Wp.skipN (by kernel_rfl) ?_
    refine seqQ_norm ?_
    refine Wp.seqN (by kernel_rfl) ?_
    refine Wp.blockN (i := 1) (by kernel_rfl) ?_
    refine Wp.seqN (by kernel_rfl) ?_
    obtain ⟨e_4_2, hi_4_2, h⟩ := bsome h
    obtain ⟨r_4_4, hr_4_4, h⟩ := bsome h
    refine Wp.reg tiok mix hc (by kernel_rfl) (ah := none) (rs := [some (.no), some (.no), some (.el (.int .i64 e_4_2)), some (.no), some (.call (.bool r_4_4) [] 1)]) (kt := [0, 3, 14]) (ko := []) (T' := [(0, .sl (List.map I ty0)), (3, .int .i64 i_3), (14, .bool r_4_4)]) (O' := []) (by kernel_rfl) (And.intro (idx_sl (enc := I) (x := .int .i64 e_4_2) hi_4_2 (eq_I e_4_2)) (And.intro (spec_l2Arrow_s _ _ hr_4_4) (And.intro bod_158 (And.intro (Or.inl rfl : ([] : List Nat) = [] ∨ noSh (.bool r_4_4) = true) trivial)))) (by kernel_rfl) (by kernel_rfl) ?_
    refine seqQ_norm ?_
    rcases itesome h with ⟨hb_5, h⟩ | ⟨hb_5, h⟩
    · refine Wp.condT (b := r_4_4) (by kernel_rfl) (by kernel_rfl) hb_5 ?_
      refine Wp.seqN (by kernel_rfl) ?_
      refine Wp.reg tiok mix hc (by kernel_rfl) (ah := none) (rs := [some (.no)]) (kt := [2]) (ko := []) (T' := [(2, .bool false)]) (O' := []) (by kernel_rfl) trivial (by kernel_rfl) (by kernel_rfl) ?_
      refine seqQ_norm ?_
      refine Wp.retN (by kernel_rfl) ?_
      refine blockQ_ret ?_
      refine seqQ_ret ?_
      refine loopQ_ret ?_
      obtain rfl := Option.some.inj h
      exact RetE.ret (fl := [true]) (by kernel_rfl)
    · refine Wp.condF (b := r_4_4) (by kernel_rfl) (by kernel_rfl) hb_5 ?_
      refine Wp.skipN (by kernel_rfl) ?_
      refine blockQ_norm ?_
      refine seqQ_norm ?_
      refine Wp.reg tiok mix hc (by kernel_rfl) (ah := none) (rs := [some (.no), some (.no), some (.no)]) (kt := [0, 3]) (ko := []) (T' := [(0, .sl (List.map I ty0)), (3, .int .i64 (wr (i_3 + 1)))]) (O' := []) (by kernel_rfl) trivial (by kernel_rfl) (by kernel_rfl) ?_
      refine loopQ_norm ?_
      exact (spec_l2Data_l0_ih _ _ h c hc)
  · refine Wp.condF (b := (decide (i_3 < (ty0.length : Int)))) (by kernel_rfl) (by kernel_rfl) hb_4 ?_
    refine Wp.exitN (i := 0) (by kernel_rfl) ?_
    refine seqQ_exit ?_
    refine loopQ_exit ?_
    obtain rfl := Option.some.inj h
    exact Into.view (fun a w hv => SRx.renL [] hv (by kernel_rfl) (by kernel_rfl) (by kernel_rfl))
def spec_l2Data (ty0 : (List Int)) : Option (Bool) :=
    (spec_l2Data_l0 (ty0, 0)) >>= fun fl => match fl with
    | .inl () =>
      some true
    | .inr r =>
      some r
def M_spec_l2Data (ty0 : (List Int)) (r : Bool) : Prop :=
  FnSound Try.prog 121 [.sl (List.map I ty0)] (.bool r) []
theorem spec_l2Data_s : ∀ p r, spec_l2Data p = some r → M_spec_l2Data p r := by
  rintro ty0 r h
  unfold spec_l2Data at h
  show FnSound Try.prog 121 [.sl (List.map I ty0)] (.bool r) []
  refine FnSound.body0 tiok (fn := Try.f121) (code := B121) (by kernel_rfl) (by kernel_rfl) (by kernel_rfl) (by kernel_rfl) (nt := 15) (by kernel_rfl) (by kernel_rfl) (T := [(0, .sl (List.map I ty0))]) (O := []) (by kernel_rfl) (by kernel_rfl) (fun c hc => ?_)
  refine Wp.seqN (by kernel_rfl) ?_
  refine Wp.reg tiok mix hc (by kernel_rfl) (ah := none) (rs := [some (.no)]) (kt := [0]) (ko := []) (T' := [(0, .sl (List.map I ty0))]) (O' := []) (by kernel_rfl) trivial (by kernel_rfl) (by kernel_rfl) ?_
  refine seqQ_norm ?_
  refine Wp.seqN (by kernel_rfl) ?_
  refine Wp.seqN (by kernel_rfl) ?_
  refine Wp.reg tiok mix hc (by kernel_rfl) (ah := none) (rs := [some (.no)]) (kt := [0, 3]) (ko := []) (T' := [(0, .sl (List.map I ty0)), (3, .int .i64 0)]) (O' := []) (by kernel_rfl) trivial (by kernel_rfl) (by kernel_rfl) ?_
  refine seqQ_norm ?_
  refine Wp.blockN (i := 0) (by kernel_rfl) ?_
  obtain ⟨fl, hl_6, h⟩ := bsome h
  have hL := spec_l2Data_l0_s _ _ hl_6 c hc
  refine Wp.loopN (by kernel_rfl) ?_
  rcases fl with ⟨⟩ | r
  · refine WpL.into (e := (.exit 0)) (mkS [] []) hL ?_
    refine blockQ_hit ?_
    refine seqQ_norm ?_
    refine Wp.seqN (by kernel_rfl) ?_
    refine Wp.reg tiok mix hc (by kernel_rfl) (ah := none) (rs := [some (.no)]) (kt := [2]) (ko := []) (T' := [(2, .bool true)]) (O' := []) (by kernel_rfl) trivial (by kernel_rfl) (by kernel_rfl) ?_
    refine seqQ_norm ?_
    refine Wp.retN (by kernel_rfl) ?_
    obtain rfl := Option.some.inj h
    exact RetQ.ret (fl := [true]) (by kernel_rfl)
  · refine WpL.mono hL ?_
    rintro _ _ ⟨rfl, hfin⟩
    refine blockQ_ret ?_
    refine seqQ_ret ?_
    obtain rfl := Option.some.inj h
    exact ⟨.inl rfl, hfin⟩
def spec_IsData (p : GSystem × (List Int)) : Option (Bool) :=
  match p with
  | (s0, ty1) =>
    (
      (spec_IsType (s0, ty1)) >>= fun r_1_2 =>
      if r_1_2 = true then
        (spec_l2Data ty1) >>= fun r_1_5 =>
        some (r_1_5)
      else
        some (false)
    ) >>= fun v_1 =>
    some v_1
def M_spec_IsData (p : GSystem × (List Int)) (r : Bool) : Prop :=
  match p with
  | (s0, ty1) => FnSound Try.prog 72 [.agg [.int .i64 s0.fSize, .sl (List.map I s0.fPlus), .sl (List.map I s0.fTimes), .sl (List.map AV.bool s0.fBelow)], .sl (List.map I ty1)] (.bool r) []
theorem spec_IsData_s : ∀ p r, spec_IsData p = some r → M_spec_IsData p r := by
  rintro ⟨s0, ty1⟩ r h
  unfold spec_IsData at h
  show FnSound Try.prog 72 [.agg [.int .i64 s0.fSize, .sl (List.map I s0.fPlus), .sl (List.map I s0.fTimes), .sl (List.map AV.bool s0.fBelow)], .sl (List.map I ty1)] (.bool r) []
  refine FnSound.body0 tiok (fn := Try.f72) (code := B72) (by kernel_rfl) (by kernel_rfl) (by kernel_rfl) (by kernel_rfl) (nt := 12) (by kernel_rfl) (by kernel_rfl) (T := [(0, .agg [.int .i64 s0.fSize, .sl (List.map I s0.fPlus), .sl (List.map I s0.fTimes), .sl (List.map AV.bool s0.fBelow)]), (1, .sl (List.map I ty1))]) (O := []) (by kernel_rfl) (by kernel_rfl) (fun c hc => ?_)
  refine Wp.seqN (by kernel_rfl) ?_
  refine Wp.reg tiok mix hc (by kernel_rfl) (ah := none) (rs := [some (.new 1), some (.no)]) (kt := [1, 2]) (ko := [1]) (T' := [(1, .sl (List.map I ty1)), (2, .ra 1 0)]) (O' := [(1, .box [.int .i64 s0.fSize, .sl (List.map I s0.fPlus), .sl (List.map I s0.fTimes), .sl (List.map AV.bool s0.fBelow)])]) (by kernel_rfl) trivial (by kernel_rfl) (by kernel_rfl) ?_
  refine seqQ_norm ?_
  refine Wp.seqN (by kernel_rfl) ?_
  obtain ⟨v_1, hj_2, h⟩ := bsome h
  refine Wp.into (x := .normal) (mkS [(4, .bool v_1)] []) ?_ ?_
  · replace h := hj_2
    obtain ⟨r_1_2, hr_1_2, h⟩ := bsome h
    rcases itesome h with ⟨hb_1_0, h⟩ | ⟨hb_1_0, h⟩
    · obtain ⟨r_1_5, hr_1_5, h⟩ := bsome h
      refine Wp.reg tiok mix hc (by kernel_rfl) (ah := none) (rs := [some (.no), some (.no), some (.call (.bool r_1_2) [] 1), some (.no), some (.no), some (.call (.bool r_1_5) [] 1), some (.cond true), some (.no)]) (kt := [4]) (ko := []) (T' := [(4, .bool r_1_5)]) (O' := []) (by kernel_rfl) (And.intro (spec_IsType_s _ _ hr_1_2) (And.intro bod_44 (And.intro (Or.inl rfl : ([] : List Nat) = [] ∨ noSh (.bool r_1_2) = true) (And.intro hb_1_0 (And.intro hb_1_0 (And.intro (spec_l2Data_s _ _ hr_1_5) (And.intro bod_121 (And.intro (Or.inl rfl : ([] : List Nat) = [] ∨ noSh (.bool r_1_5) = true) (And.intro hb_1_0 trivial))))))))) (by kernel_rfl) (by kernel_rfl) ?_
      obtain rfl := Option.some.inj h
      exact Into.mk
    · refine Wp.reg tiok mix hc (by kernel_rfl) (ah := none) (rs := [some (.no), some (.no), some (.call (.bool r_1_2) [] 1), some (.no), none, none, some (.cond false), some (.no)]) (kt := [4]) (ko := []) (T' := [(4, .bool false)]) (O' := []) (by kernel_rfl) (And.intro (spec_IsType_s _ _ hr_1_2) (And.intro bod_44 (And.intro (Or.inl rfl : ([] : List Nat) = [] ∨ noSh (.bool r_1_2) = true) (And.intro (neT hb_1_0 : r_1_2 ≠ true) (And.intro (neT hb_1_0 : r_1_2 ≠ true) (And.intro hb_1_0 trivial)))))) (by kernel_rfl) (by kernel_rfl) ?_
      obtain rfl := Option.some.inj h
      exact Into.mk
  · clear hj_2
    refine seqQ_norm ?_
    refine Wp.retN (by kernel_rfl) ?_
    obtain rfl := Option.some.inj h
    exact RetQ.ret (fl := [true]) (by kernel_rfl)
def spec_l1Copy (l0 : (List Int)) : Option ((List Int)) :=
    (fits (([] : List Int).length + l0.length) 8) >>= fun _ =>
    some l0
def M_spec_l1Copy (l0 : (List Int)) (r : (List Int)) : Prop :=
  FnSound Try.prog 149 [.sl (List.map I l0)] (.osl (List.map I r)) []
theorem spec_l1Copy_s : ∀ p r, spec_l1Copy p = some r → M_spec_l1Copy p r := by
  rintro l0 r h
  unfold spec_l1Copy at h
  show FnSound Try.prog 149 [.sl (List.map I l0)] (.osl (List.map I r)) []
  refine FnSound.body0 tiok (fn := Try.f149) (code := B149) (by kernel_rfl) (by kernel_rfl) (by kernel_rfl) (by kernel_rfl) (nt := 6) (by kernel_rfl) (by kernel_rfl) (T := [(0, .sl (List.map I l0))]) (O := []) (by kernel_rfl) (by kernel_rfl) (fun c hc => ?_)
  refine Wp.seqN (by kernel_rfl) ?_
  refine Wp.reg tiok mix hc (by kernel_rfl) (ah := none) (rs := [some (.no)]) (kt := [0]) (ko := []) (T' := [(0, .sl (List.map I l0))]) (O' := []) (by kernel_rfl) trivial (by kernel_rfl) (by kernel_rfl) ?_
  refine seqQ_norm ?_
  refine Wp.seqN (by kernel_rfl) ?_
  obtain ⟨_, hk_1_2, h⟩ := bsome h
  refine Wp.reg tiok mix hc (by kernel_rfl) (ah := none) (rs := [some (.mk 1 true), some (.no), some (.eqv (.mk 2 true) ⟨[(5, .rs 2)], [(2, some (.arr (List.map I l0))), (1, none)], [2]⟩), some (.no)]) (kt := [2]) (ko := [2]) (T' := [(2, .rs 2)]) (O' := [(2, .arr (List.map I l0))]) (by kernel_rfl) (And.intro (congrArg (fun z => (⟨[(5, .rs 2)], [(2, some (.arr z)), (1, none)], [2]⟩ : Wr)) (List.nil_append _ : [] ++ (List.map I l0) = List.map I l0)) (And.intro (app_ob (enc1 := I) (enc2 := I) (e1 := []) (e2 := l0) (sz := 1) ek_I ek_I hk_1_2) trivial)) (by kernel_rfl) (by kernel_rfl) ?_
  refine seqQ_norm ?_
  refine Wp.retN (by kernel_rfl) ?_
  obtain rfl := Option.some.inj h
  exact RetQ.ret (fl := [true]) (by kernel_rfl)
def spec_l2Part (p : (List Int) × Int) : Option ((List Int)) :=
  match p with
  | (ty0, k1) =>
    (spec_l2End (ty0, 1)) >>= fun r_1_1 =>
    if (k1 == 0) = true then
      (cut ty0 (some 1) (some r_1_1) none) >>= fun c_3_2 =>
      (spec_l1Copy c_3_2) >>= fun r_3_3 =>
      some r_3_3
    else
      (cut ty0 (some r_1_1) none none) >>= fun c_4_2 =>
      (spec_l1Copy c_4_2) >>= fun r_4_3 =>
      some r_4_3
def M_spec_l2Part (p : (List Int) × Int) (r : (List Int)) : Prop :=
  match p with
  | (ty0, k1) => FnSound Try.prog 99 [.sl (List.map I ty0), .int .i64 k1] (.osl (List.map I r)) []
theorem spec_l2Part_s : ∀ p r, spec_l2Part p = some r → M_spec_l2Part p r := by
  rintro ⟨ty0, k1⟩ r h
  unfold spec_l2Part at h
  show FnSound Try.prog 99 [.sl (List.map I ty0), .int .i64 k1] (.osl (List.map I r)) []
  refine FnSound.body0 tiok (fn := Try.f99) (code := B99) (by kernel_rfl) (by kernel_rfl) (by kernel_rfl) (by kernel_rfl) (nt := 18) (by kernel_rfl) (by kernel_rfl) (T := [(0, .sl (List.map I ty0)), (1, .int .i64 k1)]) (O := []) (by kernel_rfl) (by kernel_rfl) (fun c hc => ?_)
  refine Wp.seqN (by kernel_rfl) ?_
  refine Wp.reg tiok mix hc (by kernel_rfl) (ah := none) (rs := [some (.no)]) (kt := [0, 1]) (ko := []) (T' := [(0, .sl (List.map I ty0)), (1, .int .i64 k1)]) (O' := []) (by kernel_rfl) trivial (by kernel_rfl) (by kernel_rfl) ?_
  refine seqQ_norm ?_
  refine Wp.seqN (by kernel_rfl) ?_
  obtain ⟨r_1_1, hr_1_1, h⟩ := bsome h
  refine Wp.reg tiok mix hc (by kernel_rfl) (ah := none) (rs := [some (.no), some (.call (.int .i64 r_1_1) [] 1), some (.no)]) (kt := [0, 1, 5]) (ko := []) (T' := [(0, .sl (List.map I ty0)), (1, .int .i64 k1), (5, .int .i64 r_1_1)]) (O' := []) (by kernel_rfl) (And.intro (spec_l2End_s _ _ hr_1_1) (And.intro bod_135 (And.intro (Or.inl rfl : ([] : List Nat) = [] ∨ noSh (.int .i64 r_1_1) = true) trivial))) (by kernel_rfl) (by kernel_rfl) ?_
  refine seqQ_norm ?_
  refine Wp.seqN (by kernel_rfl) ?_
  refine Wp.seqN (by kernel_rfl) ?_
  refine Wp.reg tiok mix hc (by kernel_rfl) (ah := none) (rs := [some (.no), some (.no)]) (kt := [0, 5, 9]) (ko := []) (T' := [(0, .sl (List.map I ty0)), (5, .int .i64 r_1_1), (9, .bool (k1 == 0))]) (O' := []) (by kernel_rfl) trivial (by kernel_rfl) (by kernel_rfl) ?_
  refine seqQ_norm ?_
  rcases itesome h with ⟨hb_1, h⟩ | ⟨hb_1, h⟩
  · refine Wp.condT (b := (k1 == 0)) (by kernel_rfl) (by kernel_rfl) hb_1 ?_
    refine Wp.seqN (by kernel_rfl) ?_
    obtain ⟨c_3_2, hs_3_2, h⟩ := bsome h
    obtain ⟨r_3_3, hr_3_3, h⟩ := bsome h
    refine Wp.reg tiok mix hc (by kernel_rfl) (ah := none) (rs := [some (.no), some (.no), some (.eqv (.no) ⟨[(12, .sl (List.map I c_3_2))], [], []⟩), some (.call (.osl (List.map I r_3_3)) [] 1), some (.no)]) (kt := [4]) (ko := [1]) (T' := [(4, .rs 1)]) (O' := [(1, .arr (List.map I r_3_3))]) (by kernel_rfl) (And.intro (cut_wr (d := 12) I hs_3_2) (And.intro (cut_ob (enc := I) (sz := 1) sz_I hs_3_2) (And.intro (spec_l1Copy_s _ _ hr_3_3) (And.intro bod_149 (And.intro (Or.inl rfl : ([] : List Nat) = [] ∨ noSh (.osl (List.map I r_3_3)) = true) trivial))))) (by kernel_rfl) (by kernel_rfl) ?_
    refine seqQ_norm ?_
    refine Wp.retN (by kernel_rfl) ?_
    refine seqQ_ret ?_
    obtain rfl := Option.some.inj h
    exact RetQ.ret (fl := [true]) (by kernel_rfl)
  · refine Wp.condF (b := (k1 == 0)) (by kernel_rfl) (by kernel_rfl) hb_1 ?_
    refine Wp.skipN (by kernel_rfl) ?_
    refine seqQ_norm ?_
    refine Wp.seqN (by kernel_rfl) ?_
    obtain ⟨c_4_2, hs_4_2, h⟩ := bsome h
    obtain ⟨r_4_3, hr_4_3, h⟩ := bsome h
    refine Wp.reg tiok mix hc (by kernel_rfl) (ah := none) (rs := [some (.no), some (.no), some (.eqv (.no) ⟨[(16, .sl (List.map I c_4_2))], [], []⟩), some (.call (.osl (List.map I r_4_3)) [] 2), some (.no)]) (kt := [4]) (ko := [2]) (T' := [(4, .rs 2)]) (O' := [(2, .arr (List.map I r_4_3))]) (by kernel_rfl) (And.intro (cut_wr (d := 16) I hs_4_2) (And.intro (cut_ob (enc := I) (sz := 1) sz_I hs_4_2) (And.intro (spec_l1Copy_s _ _ hr_4_3) (And.intro bod_149 (And.intro (Or.inl rfl : ([] : List Nat) = [] ∨ noSh (.osl (List.map I r_4_3)) = true) trivial))))) (by kernel_rfl) (by kernel_rfl) ?_
    refine seqQ_norm ?_
    refine Wp.retN (by kernel_rfl) ?_
    obtain rfl := Option.some.inj h
    exact RetQ.ret (fl := [true]) (by kernel_rfl)
def spec_l1Min (p : Int × Int) : Option (Int) :=
  match p with
  | (a0, b1) =>
    if (decide (a0 < b1)) = true then
      some a0
    else
      some b1
def M_spec_l1Min (p : Int × Int) (r : Int) : Prop :=
  match p with
  | (a0, b1) => FnSound Try.prog 156 [.int .i64 a0, .int .i64 b1] (.int .i64 r) []
theorem spec_l1Min_s : ∀ p r, spec_l1Min p = some r → M_spec_l1Min p r := by
  rintro ⟨a0, b1⟩ r h
  unfold spec_l1Min at h
  show FnSound Try.prog 156 [.int .i64 a0, .int .i64 b1] (.int .i64 r) []
  refine FnSound.body0 tiok (fn := Try.f156) (code := B156) (by kernel_rfl) (by kernel_rfl) (by kernel_rfl) (by kernel_rfl) (nt := 10) (by kernel_rfl) (by kernel_rfl) (T := [(0, .int .i64 a0), (1, .int .i64 b1)]) (O := []) (by kernel_rfl) (by kernel_rfl) (fun c hc => ?_)
  refine Wp.seqN (by kernel_rfl) ?_
  refine Wp.reg tiok mix hc (by kernel_rfl) (ah := none) (rs := [some (.no)]) (kt := [0, 1]) (ko := []) (T' := [(0, .int .i64 a0), (1, .int .i64 b1)]) (O' := []) (by kernel_rfl) trivial (by kernel_rfl) (by kernel_rfl) ?_
  refine seqQ_norm ?_
  refine Wp.seqN (by kernel_rfl) ?_
  refine Wp.seqN (by kernel_rfl) ?_
  refine Wp.reg tiok mix hc (by kernel_rfl) (ah := none) (rs := [some (.no), some (.no), some (.no)]) (kt := [0, 1, 7]) (ko := []) (T' := [(0, .int .i64 a0), (1, .int .i64 b1), (7, .bool (decide (a0 < b1)))]) (O' := []) (by kernel_rfl) trivial (by kernel_rfl) (by kernel_rfl) ?_
  refine seqQ_norm ?_
  rcases itesome h with ⟨hb_1, h⟩ | ⟨hb_1, h⟩
  · refine Wp.condT (b := (decide (a0 < b1))) (by kernel_rfl) (by kernel_rfl) hb_1 ?_
    refine Wp.seqN (by kernel_rfl) ?_
    refine Wp.reg tiok mix hc (by kernel_rfl) (ah := none) (rs := [some (.no), some (.no)]) (kt := [4]) (ko := []) (T' := [(4, .int .i64 a0)]) (O' := []) (by kernel_rfl) trivial (by kernel_rfl) (by kernel_rfl) ?_
    refine seqQ_norm ?_
    refine Wp.retN (by kernel_rfl) ?_
    refine seqQ_ret ?_
    obtain rfl := Option.some.inj h
    exact RetQ.ret (fl := [true]) (by kernel_rfl)
  · refine Wp.condF (b := (decide (a0 < b1))) (by kernel_rfl) (by kernel_rfl) hb_1 ?_
    refine Wp.skipN (by kernel_rfl) ?_
    refine seqQ_norm ?_
    refine Wp.seqN (by kernel_rfl) ?_
    refine Wp.reg tiok mix hc (by kernel_rfl) (ah := none) (rs := [some (.no), some (.no)]) (kt := [4]) (ko := []) (T' := [(4, .int .i64 b1)]) (O' := []) (by kernel_rfl) trivial (by kernel_rfl) (by kernel_rfl) ?_
    refine seqQ_norm ?_
    refine Wp.retN (by kernel_rfl) ?_
    obtain rfl := Option.some.inj h
    exact RetQ.ret (fl := [true]) (by kernel_rfl)
def spec_l5Count (ty0 : (List Int)) : Option (Int) :=
    (idx ty0 0) >>= fun e_1_1 =>
    if (e_1_1 == 0) = true then
      some 3
    else
      if (e_1_1 == 1) = true then
        (spec_l2Part (ty0, 0)) >>= fun r_5_1 =>
        (spec_l5Count r_5_1) >>= fun r_5_2 =>
        (spec_l2Part (ty0, 1)) >>= fun r_5_4 =>
        (spec_l5Count r_5_4) >>= fun r_5_5 =>
        (spec_l1Min ((wr (r_5_2 * r_5_5)), 301)) >>= fun r_5_7 =>
        some r_5_7
      else
        if (e_1_1 == 2) = true then
          (spec_l2Part (ty0, 0)) >>= fun r_7_1 =>
          (spec_l5Count r_7_1) >>= fun r_7_2 =>
          (spec_l2Part (ty0, 1)) >>= fun r_7_4 =>
          (spec_l5Count r_7_4) >>= fun r_7_5 =>
          (spec_l1Min ((wr (r_7_2 + r_7_5)), 301)) >>= fun r_7_7 =>
          some r_7_7
        else
          (spec_l2Part (ty0, 0)) >>= fun r_8_1 =>
          (spec_l5Count r_8_1) >>= fun r_8_2 =>
          some r_8_2
  partial_fixpoint
def M_spec_l5Count (ty0 : (List Int)) (r : Int) : Prop :=
  FnSound Try.prog 115 [.sl (List.map I ty0)] (.int .i64 r) []
theorem spec_l5Count_s : ∀ p r, spec_l5Count p = some r → M_spec_l5Count p r := by
  refine spec_l5Count.partial_correctness M_spec_l5Count ?_
  rintro spec_l5Count_f spec_l5Count_ih ty0 r h
  show FnSound Try.prog 115 [.sl (List.map I ty0)] (.int .i64 r) []
  refine FnSound.body0 tiok (fn := Try.f115) (code := B115) (by kernel_rfl) (by kernel_rfl) (by kernel_rfl) (by kernel_rfl) (nt := 35) (by kernel_rfl) (by kernel_rfl) (T := [(0, .sl (List.map I ty0))]) (O := []) (by kernel_rfl) (by kernel_rfl) (fun c hc => ?_)
  refine Wp.seqN (by kernel_rfl) ?_
  refine Wp.reg tiok mix hc (by kernel_rfl) (ah := none) (rs := [some (.no)]) (kt := [0]) (ko := []) (T' := [(0, .sl (List.map I ty0))]) (O' := []) (by kernel_rfl) trivial (by kernel_rfl) (by kernel_rfl) ?_
  refine seqQ_norm ?_
  refine Wp.seqN (by kernel_rfl) ?_
  obtain ⟨e_1_1, hi_1_1, h⟩ := bsome h
  refine Wp.reg tiok mix hc (by kernel_rfl) (ah := none) (rs := [some (.no), some (.el (.int .i64 e_1_1)), some (.no), some (.no)]) (kt := [0, 3]) (ko := []) (T' := [(0, .sl (List.map I ty0)), (3, .int .i64 e_1_1)]) (O' := []) (by kernel_rfl) (And.intro (idx_sl (enc := I) (x := .int .i64 e_1_1) hi_1_1 (eq_I e_1_1)) trivial) (by kernel_rfl) (by kernel_rfl) ?_
  refine seqQ_norm ?_
  refine Wp.seqN (by kernel_rfl) ?_
  refine Wp.blockN (i := 0) (by kernel_rfl) ?_
  refine Wp.seqN (by kernel_rfl) ?_
  refine Wp.reg tiok mix hc (by kernel_rfl) (ah := none) (rs := [some (.no), some (.no), some (.no)]) (kt := [0, 3, 7]) (ko := []) (T' := [(0, .sl (List.map I ty0)), (3, .int .i64 e_1_1), (7, .bool (e_1_1 == 0))]) (O' := []) (by kernel_rfl) trivial (by kernel_rfl) (by kernel_rfl) ?_
  refine seqQ_norm ?_
  rcases itesome h with ⟨hb_1, h⟩ | ⟨hb_1, h⟩
  · refine Wp.condT (b := (e_1_1 == 0)) (by kernel_rfl) (by kernel_rfl) hb_1 ?_
    refine Wp.seqN (by kernel_rfl) ?_
    refine Wp.reg tiok mix hc (by kernel_rfl) (ah := none) (rs := [some (.no)]) (kt := [2]) (ko := []) (T' := [(2, .int .i64 3)]) (O' := []) (by kernel_rfl) trivial (by kernel_rfl) (by kernel_rfl) ?_
    refine seqQ_norm ?_
    refine Wp.retN (by kernel_rfl) ?_
    refine blockQ_ret ?_
    refine seqQ_ret ?_
    obtain rfl := Option.some.inj h
    exact RetQ.ret (fl := [true]) (by kernel_rfl)
  · refine Wp.condF (b := (e_1_1 == 0)) (by kernel_rfl) (by kernel_rfl) hb_1 ?_
    refine Wp.seqN (by kernel_rfl) ?_
    refine Wp.reg tiok mix hc (by kernel_rfl) (ah := none) (rs := [some (.no), some (.no), some (.no)]) (kt := [0, 3, 10]) (ko := []) (T' := [(0, .sl (List.map I ty0)), (3, .int .i64 e_1_1), (10, .bool (e_1_1 == 1))]) (O' := []) (by kernel_rfl) trivial (by kernel_rfl) (by kernel_rfl) ?_
    refine seqQ_norm ?_
    rcases itesome h with ⟨hb_2, h⟩ | ⟨hb_2, h⟩
    · refine Wp.condT (b := (e_1_1 == 1)) (by kernel_rfl) (by kernel_rfl) hb_2 ?_
      refine Wp.seqN (by kernel_rfl) ?_
      obtain ⟨r_5_1, hr_5_1, h⟩ := bsome h
      obtain ⟨r_5_2, hr_5_2, h⟩ := bsome h
      obtain ⟨r_5_4, hr_5_4, h⟩ := bsome h
      obtain ⟨r_5_5, hr_5_5, h⟩ := bsome h
      obtain ⟨r_5_7, hr_5_7, h⟩ := bsome h
      refine Wp.reg tiok mix hc (by kernel_rfl) (ah := none) (rs := [some (.no), some (.call (.osl (List.map I r_5_1)) [] 1), some (.call (.int .i64 r_5_2) [] 1), some (.no), some (.call (.osl (List.map I r_5_4)) [] 2), some (.call (.int .i64 r_5_5) [] 1), some (.no), some (.call (.int .i64 r_5_7) [] 1), some (.no)]) (kt := [2]) (ko := []) (T' := [(2, .int .i64 r_5_7)]) (O' := []) (by kernel_rfl) (And.intro (spec_l2Part_s _ _ hr_5_1) (And.intro bod_99 (And.intro (Or.inl rfl : ([] : List Nat) = [] ∨ noSh (.osl (List.map I r_5_1)) = true) (And.intro (FnSound.args (A1 := [.sl (shares (List.map I r_5_1))]) (A2 := [.sl (List.map I r_5_1)]) (by simp only [List.map_nil, sh_I]) (spec_l5Count_ih _ _ hr_5_2)) (And.intro bod_115 (And.intro (Or.inr rfl : ([1] : List Nat) = [] ∨ noSh (.int .i64 r_5_2) = true) (And.intro (spec_l2Part_s _ _ hr_5_4) (And.intro bod_99 (And.intro (Or.inl rfl : ([] : List Nat) = [] ∨ noSh (.osl (List.map I r_5_4)) = true) (And.intro (FnSound.args (A1 := [.sl (shares (List.map I r_5_4))]) (A2 := [.sl (List.map I r_5_4)]) (by simp only [List.map_nil, sh_I]) (spec_l5Count_ih _ _ hr_5_5)) (And.intro bod_115 (And.intro (Or.inr rfl : ([2] : List Nat) = [] ∨ noSh (.int .i64 r_5_5) = true) (And.intro (spec_l1Min_s _ _ hr_5_7) (And.intro bod_156 (And.intro (Or.inl rfl : ([] : List Nat) = [] ∨ noSh (.int .i64 r_5_7) = true) trivial))))))))))))))) (by kernel_rfl) (by kernel_rfl) ?_
      refine seqQ_norm ?_
      refine Wp.retN (by kernel_rfl) ?_
      refine blockQ_ret ?_
      refine seqQ_ret ?_
      obtain rfl := Option.some.inj h
      exact RetQ.ret (fl := [true]) (by kernel_rfl)
    · refine Wp.condF (b := (e_1_1 == 1)) (by kernel_rfl) (by kernel_rfl) hb_2 ?_
      refine Wp.seqN (by kernel_rfl) ?_
      refine Wp.reg tiok mix hc (by kernel_rfl) (ah := none) (rs := [some (.no), some (.no), some (.no)]) (kt := [0, 21]) (ko := []) (T' := [(0, .sl (List.map I ty0)), (21, .bool (e_1_1 == 2))]) (O' := []) (by kernel_rfl) trivial (by kernel_rfl) (by kernel_rfl) ?_
      refine seqQ_norm ?_
      rcases itesome h with ⟨hb_3, h⟩ | ⟨hb_3, h⟩
      · refine Wp.condT (b := (e_1_1 == 2)) (by kernel_rfl) (by kernel_rfl) hb_3 ?_
        refine Wp.seqN (by kernel_rfl) ?_
        obtain ⟨r_7_1, hr_7_1, h⟩ := bsome h
        obtain ⟨r_7_2, hr_7_2, h⟩ := bsome h
        obtain ⟨r_7_4, hr_7_4, h⟩ := bsome h
        obtain ⟨r_7_5, hr_7_5, h⟩ := bsome h
        obtain ⟨r_7_7, hr_7_7, h⟩ := bsome h
        refine Wp.reg tiok mix hc (by kernel_rfl) (ah := none) (rs := [some (.no), some (.call (.osl (List.map I r_7_1)) [] 3), some (.call (.int .i64 r_7_2) [] 1), some (.no), some (.call (.osl (List.map I r_7_4)) [] 4), some (.call (.int .i64 r_7_5) [] 1), some (.no), some (.call (.int .i64 r_7_7) [] 1), some (.no)]) (kt := [2]) (ko := []) (T' := [(2, .int .i64 r_7_7)]) (O' := []) (by kernel_rfl) (And.intro (spec_l2Part_s _ _ hr_7_1) (And.intro bod_99 (And.intro (Or.inl rfl : ([] : List Nat) = [] ∨ noSh (.osl (List.map I r_7_1)) = true) (And.intro (FnSound.args (A1 := [.sl (shares (List.map I r_7_1))]) (A2 := [.sl (List.map I r_7_1)]) (by simp only [List.map_nil, sh_I]) (spec_l5Count_ih _ _ hr_7_2)) (And.intro bod_115 (And.intro (Or.inr rfl : ([3] : List Nat) = [] ∨ noSh (.int .i64 r_7_2) = true) (And.intro (spec_l2Part_s _ _ hr_7_4) (And.intro bod_99 (And.intro (Or.inl rfl : ([] : List Nat) = [] ∨ noSh (.osl (List.map I r_7_4)) = true) (And.intro (FnSound.args (A1 := [.sl (shares (List.map I r_7_4))]) (A2 := [.sl (List.map I r_7_4)]) (by simp only [List.map_nil, sh_I]) (spec_l5Count_ih _ _ hr_7_5)) (And.intro bod_115 (And.intro (Or.inr rfl : ([4] : List Nat) = [] ∨ noSh (.int .i64 r_7_5) = true) (And.intro (spec_l1Min_s _ _ hr_7_7) (And.intro bod_156 (And.intro (Or.inl rfl : ([] : List Nat) = [] ∨ noSh (.int .i64 r_7_7) = true) trivial))))))))))))))) (by kernel_rfl) (by kernel_rfl) ?_
        refine seqQ_norm ?_
        refine Wp.retN (by kernel_rfl) ?_
        refine blockQ_ret ?_
        refine seqQ_ret ?_
        obtain rfl := Option.some.inj h
        exact RetQ.ret (fl := [true]) (by kernel_rfl)
      · refine Wp.condF (b := (e_1_1 == 2)) (by kernel_rfl) (by kernel_rfl) hb_3 ?_
        refine Wp.skipN (by kernel_rfl) ?_
        refine blockQ_norm ?_
        refine seqQ_norm ?_
        refine Wp.seqN (by kernel_rfl) ?_
        obtain ⟨r_8_1, hr_8_1, h⟩ := bsome h
        obtain ⟨r_8_2, hr_8_2, h⟩ := bsome h
        refine Wp.reg tiok mix hc (by kernel_rfl) (ah := none) (rs := [some (.no), some (.call (.osl (List.map I r_8_1)) [] 5), some (.call (.int .i64 r_8_2) [] 1), some (.no)]) (kt := [2]) (ko := []) (T' := [(2, .int .i64 r_8_2)]) (O' := []) (by kernel_rfl) (And.intro (spec_l2Part_s _ _ hr_8_1) (And.intro bod_99 (And.intro (Or.inl rfl : ([] : List Nat) = [] ∨ noSh (.osl (List.map I r_8_1)) = true) (And.intro (FnSound.args (A1 := [.sl (shares (List.map I r_8_1))]) (A2 := [.sl (List.map I r_8_1)]) (by simp only [List.map_nil, sh_I]) (spec_l5Count_ih _ _ hr_8_2)) (And.intro bod_115 (And.intro (Or.inr rfl : ([5] : List Nat) = [] ∨ noSh (.int .i64 r_8_2) = true) trivial)))))) (by kernel_rfl) (by kernel_rfl) ?_
        refine seqQ_norm ?_
        refine Wp.retN (by kernel_rfl) ?_
        obtain rfl := Option.some.inj h
        exact RetQ.ret (fl := [true]) (by kernel_rfl)
def spec_CountValues (p : GSystem × (List Int)) : Option (Int) :=
  match p with
  | (s0, ty1) =>
    (
      (spec_IsData (s0, ty1)) >>= fun r_1_2 =>
      if r_1_2 = true then
        (spec_l5Count ty1) >>= fun r_1_6 =>
        some ((decide (r_1_6 > 300)))
      else
        some (true)
    ) >>= fun v_1 =>
    if v_1 = true then
      some (-1)
    else
      (spec_l5Count ty1) >>= fun r_3_1 =>
      some r_3_1
def M_spec_CountValues (p : GSystem × (List Int)) (r : Int) : Prop :=
  match p with
  | (s0, ty1) => FnSound Try.prog 67 [.agg [.int .i64 s0.fSize, .sl (List.map I s0.fPlus), .sl (List.map I s0.fTimes), .sl (List.map AV.bool s0.fBelow)], .sl (List.map I ty1)] (.int .i64 r) []
theorem spec_CountValues_s : ∀ p r, spec_CountValues p = some r → M_spec_CountValues p r := by
  rintro ⟨s0, ty1⟩ r h
  unfold spec_CountValues at h
  show FnSound Try.prog 67 [.agg [.int .i64 s0.fSize, .sl (List.map I s0.fPlus), .sl (List.map I s0.fTimes), .sl (List.map AV.bool s0.fBelow)], .sl (List.map I ty1)] (.int .i64 r) []
  refine FnSound.body0 tiok (fn := Try.f67) (code := B67) (by kernel_rfl) (by kernel_rfl) (by kernel_rfl) (by kernel_rfl) (nt := 16) (by kernel_rfl) (by kernel_rfl) (T := [(0, .agg [.int .i64 s0.fSize, .sl (List.map I s0.fPlus), .sl (List.map I s0.fTimes), .sl (List.map AV.bool s0.fBelow)]), (1, .sl (List.map I ty1))]) (O := []) (by kernel_rfl) (by kernel_rfl) (fun c hc => ?_)
  refine Wp.seqN (by kernel_rfl) ?_
  refine Wp.reg tiok mix hc (by kernel_rfl) (ah := none) (rs := [some (.new 1), some (.no)]) (kt := [1, 2]) (ko := [1]) (T' := [(1, .sl (List.map I ty1)), (2, .ra 1 0)]) (O' := [(1, .box [.int .i64 s0.fSize, .sl (List.map I s0.fPlus), .sl (List.map I s0.fTimes), .sl (List.map AV.bool s0.fBelow)])]) (by kernel_rfl) trivial (by kernel_rfl) (by kernel_rfl) ?_
  refine seqQ_norm ?_
  refine Wp.seqN (by kernel_rfl) ?_
  refine Wp.seqN (by kernel_rfl) ?_
  obtain ⟨v_1, hj_2, h⟩ := bsome h
  refine Wp.into (x := .normal) (mkS [(1, .sl (List.map I ty1)), (13, .bool v_1)] []) ?_ ?_
  · replace h := hj_2
    obtain ⟨r_1_2, hr_1_2, h⟩ := bsome h
    rcases itesome h with ⟨hb_1_0, h⟩ | ⟨hb_1_0, h⟩
    · obtain ⟨r_1_6, hr_1_6, h⟩ := bsome h
      refine Wp.reg tiok mix hc (by kernel_rfl) (ah := none) (rs := [some (.no), some (.no), some (.call (.bool r_1_2) [] 1), some (.no), some (.no), some (.no), some (.call (.int .i64 r_1_6) [] 1), some (.no), some (.cond false)]) (kt := [1, 13]) (ko := []) (T' := [(1, .sl (List.map I ty1)), (13, .bool (decide (r_1_6 > 300)))]) (O' := []) (by kernel_rfl) (And.intro (spec_IsData_s _ _ hr_1_2) (And.intro bod_72 (And.intro (Or.inl rfl : ([] : List Nat) = [] ∨ noSh (.bool r_1_2) = true) (And.intro (nF hb_1_0) (And.intro (nF hb_1_0) (And.intro (spec_l5Count_s _ _ hr_1_6) (And.intro bod_115 (And.intro (Or.inl rfl : ([] : List Nat) = [] ∨ noSh (.int .i64 r_1_6) = true) (And.intro (nF hb_1_0) (And.intro (nF hb_1_0) trivial)))))))))) (by kernel_rfl) (by kernel_rfl) ?_
      obtain rfl := Option.some.inj h
      exact Into.mk
    · refine Wp.reg tiok mix hc (by kernel_rfl) (ah := none) (rs := [some (.no), some (.no), some (.call (.bool r_1_2) [] 1), some (.no), some (.no), none, none, none, some (.cond true)]) (kt := [1, 13]) (ko := []) (T' := [(1, .sl (List.map I ty1)), (13, .bool true)]) (O' := []) (by kernel_rfl) (And.intro (spec_IsData_s _ _ hr_1_2) (And.intro bod_72 (And.intro (Or.inl rfl : ([] : List Nat) = [] ∨ noSh (.bool r_1_2) = true) (And.intro (neF (nT hb_1_0) : (!r_1_2) ≠ false) (And.intro (neF (nT hb_1_0) : (!r_1_2) ≠ false) (And.intro (neF (nT hb_1_0) : (!r_1_2) ≠ false) (And.intro (nT hb_1_0) trivial))))))) (by kernel_rfl) (by kernel_rfl) ?_
      obtain rfl := Option.some.inj h
      exact Into.mk
  · clear hj_2
    refine seqQ_norm ?_
    rcases itesome h with ⟨hb_3, h⟩ | ⟨hb_3, h⟩
    · refine Wp.condT (b := v_1) (by kernel_rfl) (by kernel_rfl) hb_3 ?_
      refine Wp.seqN (by kernel_rfl) ?_
      refine Wp.reg tiok mix hc (by kernel_rfl) (ah := none) (rs := [some (.no)]) (kt := [4]) (ko := []) (T' := [(4, .int .i64 (-1))]) (O' := []) (by kernel_rfl) trivial (by kernel_rfl) (by kernel_rfl) ?_
      refine seqQ_norm ?_
      refine Wp.retN (by kernel_rfl) ?_
      refine seqQ_ret ?_
      obtain rfl := Option.some.inj h
      exact RetQ.ret (fl := [true]) (by kernel_rfl)
    · refine Wp.condF (b := v_1) (by kernel_rfl) (by kernel_rfl) hb_3 ?_
      refine Wp.skipN (by kernel_rfl) ?_
      refine seqQ_norm ?_
      refine Wp.seqN (by kernel_rfl) ?_
      obtain ⟨r_3_1, hr_3_1, h⟩ := bsome h
      refine Wp.reg tiok mix hc (by kernel_rfl) (ah := none) (rs := [some (.no), some (.call (.int .i64 r_3_1) [] 1), some (.no)]) (kt := [4]) (ko := []) (T' := [(4, .int .i64 r_3_1)]) (O' := []) (by kernel_rfl) (And.intro (spec_l5Count_s _ _ hr_3_1) (And.intro bod_115 (And.intro (Or.inl rfl : ([] : List Nat) = [] ∨ noSh (.int .i64 r_3_1) = true) trivial))) (by kernel_rfl) (by kernel_rfl) ?_
      refine seqQ_norm ?_
      refine Wp.retN (by kernel_rfl) ?_
      obtain rfl := Option.some.inj h
      exact RetQ.ret (fl := [true]) (by kernel_rfl)
def spec_l5At (p : (List Int) × Int) : Option (GTerm) :=
  match p with
  | (ty0, k1) =>
    (idx ty0 0) >>= fun e_1_1 =>
    if (e_1_1 == 0) = true then
      some (GTerm.mk 1 k1 [] [])
    else
      (spec_l2Part (ty0, 0)) >>= fun r_4_1 =>
      (spec_l2Box e_1_1) >>= fun r_5_1 =>
      if r_5_1 = true then
        (spec_l2Grade e_1_1) >>= fun r_6_1 =>
        (spec_l5At (r_4_1, k1)) >>= fun r_6_4 =>
        some (GTerm.mk 11 r_6_1 [] [r_6_4])
      else
        (spec_l2Part (ty0, 1)) >>= fun r_7_1 =>
        if (e_1_1 == 1) = true then
          (spec_l5Count r_7_1) >>= fun r_9_1 =>
          (chk (r_9_1 ≠ 0)) >>= fun _ =>
          (spec_l5At (r_4_1, (wr (Int.tdiv k1 r_9_1)))) >>= fun r_10_4 =>
          (chk (r_9_1 ≠ 0)) >>= fun _ =>
          (spec_l5At (r_7_1, (Int.tmod k1 r_9_1))) >>= fun r_10_9 =>
          some (GTerm.mk 4 0 [] [r_10_4, r_10_9])
        else
          (spec_l5Count r_4_1) >>= fun r_11_1 =>
          if (decide (k1 < r_11_1)) = true then
            (spec_l5At (r_4_1, k1)) >>= fun r_13_3 =>
            some (GTerm.mk 6 0 r_7_1 [r_13_3])
          else
            (spec_l5At (r_7_1, (wr (k1 - r_11_1)))) >>= fun r_14_5 =>
            some (GTerm.mk 7 0 r_4_1 [r_14_5])
  partial_fixpoint
def M_spec_l5At (p : (List Int) × Int) (r : GTerm) : Prop :=
  match p with
  | (ty0, k1) => FnSound Try.prog 77 [.sl (List.map I ty0), .int .i64 k1] (.agg [.int .i64 r.fOp, .int .i64 r.fN, .osl (List.map I r.fType), .osl (List.map GTerm_O r.fKids)]) []
theorem spec_l5At_s : ∀ p r, spec_l5At p = some r → M_spec_l5At p r := by
  refine spec_l5At.partial_correctness M_spec_l5At ?_
  rintro spec_l5At_f spec_l5At_ih ⟨ty0, k1⟩ r h
  show FnSound Try.prog 77 [.sl (List.map I ty0), .int .i64 k1] (.agg [.int .i64 r.fOp, .int .i64 r.fN, .osl (List.map I r.fType), .osl (List.map GTerm_O r.fKids)]) []
  refine FnSound.body0 tiok (fn := Try.f77) (code := B77) (by kernel_rfl) (by kernel_rfl) (by kernel_rfl) (by kernel_rfl) (nt := 65) (by kernel_rfl) (by kernel_rfl) (T := [(0, .sl (List.map I ty0)), (1, .int .i64 k1)]) (O := []) (by kernel_rfl) (by kernel_rfl) (fun c hc => ?_)
  refine Wp.seqN (by kernel_rfl) ?_
  refine Wp.reg tiok mix hc (by kernel_rfl) (ah := none) (rs := [some (.new 1)]) (kt := [0, 1, 4]) (ko := [1]) (T' := [(0, .sl (List.map I ty0)), (1, .int .i64 k1), (4, .ra 1 0)]) (O' := [(1, .box [.int .i64 0, .int .i64 0, .nils, .nils])]) (by kernel_rfl) trivial (by kernel_rfl) (by kernel_rfl) ?_
  refine seqQ_norm ?_
  refine Wp.seqN (by kernel_rfl) ?_
  obtain ⟨e_1_1, hi_1_1, h⟩ := bsome h
  refine Wp.reg tiok mix hc (by kernel_rfl) (ah := none) (rs := [some (.no), some (.el (.int .i64 e_1_1)), some (.no), some (.no)]) (kt := [0, 1, 4, 5]) (ko := [1]) (T' := [(0, .sl (List.map I ty0)), (1, .int .i64 k1), (4, .ra 1 0), (5, .int .i64 e_1_1)]) (O' := [(1, .box [.int .i64 0, .int .i64 0, .nils, .nils])]) (by kernel_rfl) (And.intro (idx_sl (enc := I) (x := .int .i64 e_1_1) hi_1_1 (eq_I e_1_1)) trivial) (by kernel_rfl) (by kernel_rfl) ?_
  refine seqQ_norm ?_
  refine Wp.seqN (by kernel_rfl) ?_
  refine Wp.seqN (by kernel_rfl) ?_
  refine Wp.reg tiok mix hc (by kernel_rfl) (ah := none) (rs := [some (.no), some (.no)]) (kt := [0, 1, 4, 5, 14]) (ko := [1]) (T' := [(0, .sl (List.map I ty0)), (1, .int .i64 k1), (4, .ra 1 0), (5, .int .i64 e_1_1), (14, .bool (e_1_1 == 0))]) (O' := [(1, .box [.int .i64 0, .int .i64 0, .nils, .nils])]) (by kernel_rfl) trivial (by kernel_rfl) (by kernel_rfl) ?_
  refine seqQ_norm ?_
  rcases itesome h with ⟨hb_1, h⟩ | ⟨hb_1, h⟩
  · refine Wp.condT (b := (e_1_1 == 0)) (by kernel_rfl) (by kernel_rfl) hb_1 ?_
    refine Wp.seqN (by kernel_rfl) ?_
    refine Wp.reg tiok mix hc (by kernel_rfl) (ah := none) (rs := [some (.no), some (.no), some (.no)]) (kt := [4]) (ko := [1]) (T' := [(4, .ra 1 0)]) (O' := [(1, .box [.int .i64 1, .int .i64 k1, .nils, .nils])]) (by kernel_rfl) trivial (by kernel_rfl) (by kernel_rfl) ?_
    refine seqQ_norm ?_
    refine Wp.retN (by kernel_rfl) ?_
    refine seqQ_ret ?_
    obtain rfl := Option.some.inj h
    exact RetQ.ret (fl := [true]) (by kernel_rfl)
  · refine Wp.condF (b := (e_1_1 == 0)) (by kernel_rfl) (by kernel_rfl) hb_1 ?_
    refine Wp.skipN (by kernel_rfl) ?_
    refine seqQ_norm ?_
    refine Wp.seqN (by kernel_rfl) ?_
    obtain ⟨r_4_1, hr_4_1, h⟩ := bsome h
    refine Wp.reg tiok mix hc (by kernel_rfl) (ah := none) (rs := [some (.no), some (.call (.osl (List.map I r_4_1)) [] 2), some (.no)]) (kt := [0, 1, 4, 5, 6]) (ko := [1, 2]) (T' := [(0, .sl (List.map I ty0)), (1, .int .i64 k1), (4, .ra 1 0), (5, .int .i64 e_1_1), (6, .rs 2)]) (O' := [(1, .box [.int .i64 0, .int .i64 0, .nils, .nils]), (2, .arr (List.map I r_4_1))]) (by kernel_rfl) (And.intro (spec_l2Part_s _ _ hr_4_1) (And.intro bod_99 (And.intro (Or.inl rfl : ([] : List Nat) = [] ∨ noSh (.osl (List.map I r_4_1)) = true) trivial))) (by kernel_rfl) (by kernel_rfl) ?_
    refine seqQ_norm ?_
    refine Wp.seqN (by kernel_rfl) ?_
    refine Wp.seqN (by kernel_rfl) ?_
    obtain ⟨r_5_1, hr_5_1, h⟩ := bsome h
    refine Wp.reg tiok mix hc (by kernel_rfl) (ah := none) (rs := [some (.no), some (.call (.bool r_5_1) [] 1)]) (kt := [0, 1, 4, 5, 6, 20]) (ko := [1, 2]) (T' := [(0, .sl (List.map I ty0)), (1, .int .i64 k1), (4, .ra 1 0), (5, .int .i64 e_1_1), (6, .rs 2), (20, .bool r_5_1)]) (O' := [(1, .box [.int .i64 0, .int .i64 0, .nils, .nils]), (2, .arr (List.map I r_4_1))]) (by kernel_rfl) (And.intro (spec_l2Box_s _ _ hr_5_1) (And.intro bod_100 (And.intro (Or.inl rfl : ([] : List Nat) = [] ∨ noSh (.bool r_5_1) = true) trivial))) (by kernel_rfl) (by kernel_rfl) ?_
    refine seqQ_norm ?_
    rcases itesome h with ⟨hb_2, h⟩ | ⟨hb_2, h⟩
    · refine Wp.condT (b := r_5_1) (by kernel_rfl) (by kernel_rfl) hb_2 ?_
      refine Wp.seqN (by kernel_rfl) ?_
      obtain ⟨r_6_1, hr_6_1, h⟩ := bsome h
      obtain ⟨r_6_4, hr_6_4, h⟩ := bsome h
      refine Wp.reg tiok mix hc (by kernel_rfl) (ah := none) (rs := [some (.no), some (.call (.int .i64 r_6_1) [] 1), some (.no), some (.no), some (.call (.agg [.int .i64 r_6_4.fOp, .int .i64 r_6_4.fN, .osl (List.map I r_6_4.fType), .osl (List.map GTerm_O r_6_4.fKids)]) [] 3), some (.eqv (.mk 5 true) ⟨[(26, .rs 5)], [(5, some (.arr (List.map GTerm_O [r_6_4]))), (3, none), (4, none)], [5]⟩), some (.no), some (.no)]) (kt := [4]) (ko := [1, 5]) (T' := [(4, .ra 1 0)]) (O' := [(1, .box [.int .i64 11, .int .i64 r_6_1, .nils, .rs 5]), (5, .arr (List.map GTerm_O [r_6_4]))]) (by kernel_rfl) (And.intro (spec_l2Grade_s _ _ hr_6_1) (And.intro bod_101 (And.intro (Or.inl rfl : ([] : List Nat) = [] ∨ noSh (.int .i64 r_6_1) = true) (And.intro (FnSound.args (A1 := [.sl (shares (List.map I r_4_1)), .int .i64 k1]) (A2 := [.sl (List.map I r_4_1), .int .i64 k1]) (by simp only [List.map_nil, sh_I]) (spec_l5At_ih _ _ hr_6_4)) (And.intro bod_77 (And.intro (Or.inr (nsh_cons rfl (nsh_cons rfl (nsh_cons (nsh_row nsh_I r_6_4.fType) (nsh_cons (nsh_row nsh_GTerm_O r_6_4.fKids) rfl)))) : ([2] : List Nat) = [] ∨ noSh (.agg [.int .i64 r_6_4.fOp, .int .i64 r_6_4.fN, .osl (List.map I r_6_4.fType), .osl (List.map GTerm_O r_6_4.fKids)]) = true) (And.intro (congrArg (fun z => (⟨[(26, .rs 5)], [(5, some (.arr z)), (3, none), (4, none)], [5]⟩ : Wr)) ((rows1 (eq_GTerm_O r_6_4) rows0) : [AV.agg [.int .i64 r_6_4.fOp, .int .i64 r_6_4.fN, AV.osl (List.map I r_6_4.fType), AV.osl (List.map GTerm_O r_6_4.fKids)]] = List.map GTerm_O [r_6_4])) trivial))))))) (by kernel_rfl) (by kernel_rfl) ?_
      refine seqQ_norm ?_
      refine Wp.retN (by kernel_rfl) ?_
      refine seqQ_ret ?_
      obtain rfl := Option.some.inj h
      exact RetQ.ret (fl := [true]) (by kernel_rfl)
    · refine Wp.condF (b := r_5_1) (by kernel_rfl) (by kernel_rfl) hb_2 ?_
      refine Wp.skipN (by kernel_rfl) ?_
      refine seqQ_norm ?_
      refine Wp.seqN (by kernel_rfl) ?_
      obtain ⟨r_7_1, hr_7_1, h⟩ := bsome h
      refine Wp.reg tiok mix hc (by kernel_rfl) (ah := none) (rs := [some (.no), some (.call (.osl (List.map I r_7_1)) [] 6), some (.no)]) (kt := [1, 4, 5, 6, 7]) (ko := [1, 2, 6]) (T' := [(1, .int .i64 k1), (4, .ra 1 0), (5, .int .i64 e_1_1), (6, .rs 2), (7, .rs 6)]) (O' := [(1, .box [.int .i64 0, .int .i64 0, .nils, .nils]), (2, .arr (List.map I r_4_1)), (6, .arr (List.map I r_7_1))]) (by kernel_rfl) (And.intro (spec_l2Part_s _ _ hr_7_1) (And.intro bod_99 (And.intro (Or.inl rfl : ([] : List Nat) = [] ∨ noSh (.osl (List.map I r_7_1)) = true) trivial))) (by kernel_rfl) (by kernel_rfl) ?_
      refine seqQ_norm ?_
      refine Wp.seqN (by kernel_rfl) ?_
      refine Wp.seqN (by kernel_rfl) ?_
      refine Wp.reg tiok mix hc (by kernel_rfl) (ah := none) (rs := [some (.no), some (.no)]) (kt := [1, 4, 6, 7, 31]) (ko := [1, 2, 6]) (T' := [(1, .int .i64 k1), (4, .ra 1 0), (6, .rs 2), (7, .rs 6), (31, .bool (e_1_1 == 1))]) (O' := [(1, .box [.int .i64 0, .int .i64 0, .nils, .nils]), (2, .arr (List.map I r_4_1)), (6, .arr (List.map I r_7_1))]) (by kernel_rfl) trivial (by kernel_rfl) (by kernel_rfl) ?_
      refine seqQ_norm ?_
      rcases itesome h with ⟨hb_3, h⟩ | ⟨hb_3, h⟩
      · refine Wp.condT (b := (e_1_1 == 1)) (by kernel_rfl) (by kernel_rfl) hb_3 ?_
        refine Wp.seqN (by kernel_rfl) ?_
        obtain ⟨r_9_1, hr_9_1, h⟩ := bsome h
        refine Wp.reg tiok mix hc (by kernel_rfl) (ah := none) (rs := [some (.no), some (.call (.int .i64 r_9_1) [] 1), some (.no)]) (kt := [1, 4, 6, 7, 8]) (ko := [1, 2, 6]) (T' := [(1, .int .i64 k1), (4, .ra 1 0), (6, .rs 2), (7, .rs 6), (8, .int .i64 r_9_1)]) (O' := [(1, .box [.int .i64 0, .int .i64 0, .nils, .nils]), (2, .arr (List.map I r_4_1)), (6, .arr (List.map I r_7_1))]) (by kernel_rfl) (And.intro (FnSound.args (A1 := [.sl (shares (List.map I r_7_1))]) (A2 := [.sl (List.map I r_7_1)]) (by simp only [List.map_nil, sh_I]) (spec_l5Count_s _ _ hr_9_1)) (And.intro bod_115 (And.intro (Or.inr rfl : ([6] : List Nat) = [] ∨ noSh (.int .i64 r_9_1) = true) trivial))) (by kernel_rfl) (by kernel_rfl) ?_
        refine seqQ_norm ?_
        refine Wp.seqN (by kernel_rfl) ?_
        obtain ⟨_, hk_10_3, h⟩ := bsome h
        obtain ⟨r_10_4, hr_10_4, h⟩ := bsome h
        obtain ⟨_, hk_10_8, h⟩ := bsome h
        obtain ⟨r_10_9, hr_10_9, h⟩ := bsome h
        refine Wp.reg tiok mix hc (by kernel_rfl) (ah := (some [[], [], [], [1, 2], [0, 1, 2, 3], [], [], [], [6, 7], [0, 1, 2, 3, 4, 5, 6, 7, 8], [0, 1, 2, 3, 4, 5, 6, 7, 8, 9], [0, 1, 2, 3, 4, 5, 6, 7, 8, 9, 10], [0, 1, 2, 3, 4, 5, 6, 7, 8, 9, 10, 11]])) (rs := [some (.no), some (.no), some (.no), some (.no), some (.call (.agg [.int .i64 r_10_4.fOp, .int .i64 r_10_4.fN, .osl (List.map I r_10_4.fType), .osl (List.map GTerm_O r_10_4.fKids)]) [] 7), some (.no), some (.no), some (.no), some (.no), some (.call (.agg [.int .i64 r_10_9.fOp, .int .i64 r_10_9.fN, .osl (List.map I r_10_9.fType), .osl (List.map GTerm_O r_10_9.fKids)]) [] 9), some (.eqv (.mk 11 true) ⟨[(44, .rs 11)], [(11, some (.arr (List.map GTerm_O [r_10_4, r_10_9]))), (7, none), (8, none), (9, none), (10, none)], [11]⟩), some (.no), some (.no)]) (kt := [4]) (ko := [1, 11]) (T' := [(4, .ra 1 0)]) (O' := [(1, .box [.int .i64 4, .int .i64 0, .nils, .rs 11]), (11, .arr (List.map GTerm_O [r_10_4, r_10_9]))]) (by kernel_rfl) (And.intro (chk_of hk_10_3) (And.intro (FnSound.args (A1 := [.sl (shares (List.map I r_4_1)), .int .i64 (wr (Int.tdiv k1 r_9_1))]) (A2 := [.sl (List.map I r_4_1), .int .i64 (wr (Int.tdiv k1 r_9_1))]) (by simp only [List.map_nil, sh_I]) (spec_l5At_ih _ _ hr_10_4)) (And.intro bod_77 (And.intro (Or.inr (nsh_cons rfl (nsh_cons rfl (nsh_cons (nsh_row nsh_I r_10_4.fType) (nsh_cons (nsh_row nsh_GTerm_O r_10_4.fKids) rfl)))) : ([2] : List Nat) = [] ∨ noSh (.agg [.int .i64 r_10_4.fOp, .int .i64 r_10_4.fN, .osl (List.map I r_10_4.fType), .osl (List.map GTerm_O r_10_4.fKids)]) = true) (And.intro (chk_of hk_10_8) (And.intro (FnSound.args (A1 := [.sl (shares (List.map I r_7_1)), .int .i64 (Int.tmod k1 r_9_1)]) (A2 := [.sl (List.map I r_7_1), .int .i64 (Int.tmod k1 r_9_1)]) (by simp only [List.map_nil, sh_I]) (spec_l5At_ih _ _ hr_10_9)) (And.intro bod_77 (And.intro (Or.inr (nsh_cons rfl (nsh_cons rfl (nsh_cons (nsh_row nsh_I r_10_9.fType) (nsh_cons (nsh_row nsh_GTerm_O r_10_9.fKids) rfl)))) : ([6] : List Nat) = [] ∨ noSh (.agg [.int .i64 r_10_9.fOp, .int .i64 r_10_9.fN, .osl (List.map I r_10_9.fType), .osl (List.map GTerm_O r_10_9.fKids)]) = true) (And.intro (congrArg (fun z => (⟨[(44, .rs 11)], [(11, some (.arr z)), (7, none), (8, none), (9, none), (10, none)], [11]⟩ : Wr)) ((rows1 (eq_GTerm_O r_10_4) (rows1 (eq_GTerm_O r_10_9) rows0)) : [AV.agg [.int .i64 r_10_4.fOp, .int .i64 r_10_4.fN, AV.osl (List.map I r_10_4.fType), AV.osl (List.map GTerm_O r_10_4.fKids)], AV.agg [.int .i64 r_10_9.fOp, .int .i64 r_10_9.fN, AV.osl (List.map I r_10_9.fType), AV.osl (List.map GTerm_O r_10_9.fKids)]] = List.map GTerm_O [r_10_4, r_10_9])) trivial))))))))) (by kernel_rfl) (by kernel_rfl) ?_
        refine seqQ_norm ?_
        refine Wp.retN (by kernel_rfl) ?_
        refine seqQ_ret ?_
        obtain rfl := Option.some.inj h
        exact RetQ.ret (fl := [true]) (by kernel_rfl)
      · refine Wp.condF (b := (e_1_1 == 1)) (by kernel_rfl) (by kernel_rfl) hb_3 ?_
        refine Wp.skipN (by kernel_rfl) ?_
        refine seqQ_norm ?_
        refine Wp.seqN (by kernel_rfl) ?_
        obtain ⟨r_11_1, hr_11_1, h⟩ := bsome h
        refine Wp.reg tiok mix hc (by kernel_rfl) (ah := none) (rs := [some (.no), some (.call (.int .i64 r_11_1) [] 1), some (.no)]) (kt := [1, 4, 6, 7, 9]) (ko := [1, 2, 6]) (T' := [(1, .int .i64 k1), (4, .ra 1 0), (6, .rs 2), (7, .rs 6), (9, .int .i64 r_11_1)]) (O' := [(1, .box [.int .i64 0, .int .i64 0, .nils, .nils]), (2, .arr (List.map I r_4_1)), (6, .arr (List.map I r_7_1))]) (by kernel_rfl) (And.intro (FnSound.args (A1 := [.sl (shares (List.map I r_4_1))]) (A2 := [.sl (List.map I r_4_1)]) (by simp only [List.map_nil, sh_I]) (spec_l5Count_s _ _ hr_11_1)) (And.intro bod_115 (And.intro (Or.inr rfl : ([2] : List Nat) = [] ∨ noSh (.int .i64 r_11_1) = true) trivial))) (by kernel_rfl) (by kernel_rfl) ?_
        refine seqQ_norm ?_
        refine Wp.seqN (by kernel_rfl) ?_
        refine Wp.seqN (by kernel_rfl) ?_
        refine Wp.reg tiok mix hc (by kernel_rfl) (ah := none) (rs := [some (.no), some (.no), some (.no)]) (kt := [1, 4, 6, 7, 9, 50]) (ko := [1, 2, 6]) (T' := [(1, .int .i64 k1), (4, .ra 1 0), (6, .rs 2), (7, .rs 6), (9, .int .i64 r_11_1), (50, .bool (decide (k1 < r_11_1)))]) (O' := [(1, .box [.int .i64 0, .int .i64 0, .nils, .nils]), (2, .arr (List.map I r_4_1)), (6, .arr (List.map I r_7_1))]) (by kernel_rfl) trivial (by kernel_rfl) (by kernel_rfl) ?_
        refine seqQ_norm ?_
        rcases itesome h with ⟨hb_4, h⟩ | ⟨hb_4, h⟩
        · refine Wp.condT (b := (decide (k1 < r_11_1))) (by kernel_rfl) (by kernel_rfl) hb_4 ?_
          refine Wp.seqN (by kernel_rfl) ?_
          obtain ⟨r_13_3, hr_13_3, h⟩ := bsome h
          refine Wp.reg tiok mix hc (by kernel_rfl) (ah := none) (rs := [some (.no), some (.no), some (.no), some (.call (.agg [.int .i64 r_13_3.fOp, .int .i64 r_13_3.fN, .osl (List.map I r_13_3.fType), .osl (List.map GTerm_O r_13_3.fKids)]) [] 12), some (.eqv (.mk 14 true) ⟨[(55, .rs 14)], [(14, some (.arr (List.map GTerm_O [r_13_3]))), (12, none), (13, none)], [14]⟩), some (.no), some (.no)]) (kt := [4]) (ko := [1, 6, 14]) (T' := [(4, .ra 1 0)]) (O' := [(1, .box [.int .i64 6, .int .i64 0, .rs 6, .rs 14]), (6, .arr (List.map I r_7_1)), (14, .arr (List.map GTerm_O [r_13_3]))]) (by kernel_rfl) (And.intro (FnSound.args (A1 := [.sl (shares (List.map I r_4_1)), .int .i64 k1]) (A2 := [.sl (List.map I r_4_1), .int .i64 k1]) (by simp only [List.map_nil, sh_I]) (spec_l5At_ih _ _ hr_13_3)) (And.intro bod_77 (And.intro (Or.inr (nsh_cons rfl (nsh_cons rfl (nsh_cons (nsh_row nsh_I r_13_3.fType) (nsh_cons (nsh_row nsh_GTerm_O r_13_3.fKids) rfl)))) : ([2] : List Nat) = [] ∨ noSh (.agg [.int .i64 r_13_3.fOp, .int .i64 r_13_3.fN, .osl (List.map I r_13_3.fType), .osl (List.map GTerm_O r_13_3.fKids)]) = true) (And.intro (congrArg (fun z => (⟨[(55, .rs 14)], [(14, some (.arr z)), (12, none), (13, none)], [14]⟩ : Wr)) ((rows1 (eq_GTerm_O r_13_3) rows0) : [AV.agg [.int .i64 r_13_3.fOp, .int .i64 r_13_3.fN, AV.osl (List.map I r_13_3.fType), AV.osl (List.map GTerm_O r_13_3.fKids)]] = List.map GTerm_O [r_13_3])) trivial)))) (by kernel_rfl) (by kernel_rfl) ?_
          refine seqQ_norm ?_
          refine Wp.retN (by kernel_rfl) ?_
          refine seqQ_ret ?_
          obtain rfl := Option.some.inj h
          exact RetQ.ret (fl := [true]) (by kernel_rfl)
        · refine Wp.condF (b := (decide (k1 < r_11_1))) (by kernel_rfl) (by kernel_rfl) hb_4 ?_
          refine Wp.skipN (by kernel_rfl) ?_
          refine seqQ_norm ?_
          refine Wp.seqN (by kernel_rfl) ?_
          obtain ⟨r_14_5, hr_14_5, h⟩ := bsome h
          refine Wp.reg tiok mix hc (by kernel_rfl) (ah := none) (rs := [some (.no), some (.no), some (.no), some (.no), some (.no), some (.call (.agg [.int .i64 r_14_5.fOp, .int .i64 r_14_5.fN, .osl (List.map I r_14_5.fType), .osl (List.map GTerm_O r_14_5.fKids)]) [] 15), some (.eqv (.mk 17 true) ⟨[(63, .rs 17)], [(17, some (.arr (List.map GTerm_O [r_14_5]))), (15, none), (16, none)], [17]⟩), some (.no), some (.no)]) (kt := [4]) (ko := [1, 2, 17]) (T' := [(4, .ra 1 0)]) (O' := [(1, .box [.int .i64 7, .int .i64 0, .rs 2, .rs 17]), (2, .arr (List.map I r_4_1)), (17, .arr (List.map GTerm_O [r_14_5]))]) (by kernel_rfl) (And.intro (FnSound.args (A1 := [.sl (shares (List.map I r_7_1)), .int .i64 (wr (k1 - r_11_1))]) (A2 := [.sl (List.map I r_7_1), .int .i64 (wr (k1 - r_11_1))]) (by simp only [List.map_nil, sh_I]) (spec_l5At_ih _ _ hr_14_5)) (And.intro bod_77 (And.intro (Or.inr (nsh_cons rfl (nsh_cons rfl (nsh_cons (nsh_row nsh_I r_14_5.fType) (nsh_cons (nsh_row nsh_GTerm_O r_14_5.fKids) rfl)))) : ([6] : List Nat) = [] ∨ noSh (.agg [.int .i64 r_14_5.fOp, .int .i64 r_14_5.fN, .osl (List.map I r_14_5.fType), .osl (List.map GTerm_O r_14_5.fKids)]) = true) (And.intro (congrArg (fun z => (⟨[(63, .rs 17)], [(17, some (.arr z)), (15, none), (16, none)], [17]⟩ : Wr)) ((rows1 (eq_GTerm_O r_14_5) rows0) : [AV.agg [.int .i64 r_14_5.fOp, .int .i64 r_14_5.fN, AV.osl (List.map I r_14_5.fType), AV.osl (List.map GTerm_O r_14_5.fKids)]] = List.map GTerm_O [r_14_5])) trivial)))) (by kernel_rfl) (by kernel_rfl) ?_
          refine seqQ_norm ?_
          refine Wp.retN (by kernel_rfl) ?_
          obtain rfl := Option.some.inj h
          exact RetQ.ret (fl := [true]) (by kernel_rfl)
def spec_ValueAt (p : GSystem × (List Int) × Int) : Option (GTerm × Bool) :=
  match p with
  | (s0, ty1, k2) =>
    (spec_CountValues (s0, ty1)) >>= fun r_1_3 =>
    (spec_l1In (k2, 0, (wr (r_1_3 - 1)))) >>= fun r_1_5 =>
    if r_1_5 = true then
      (spec_l5At (ty1, k2)) >>= fun r_3_2 =>
      some (r_3_2, true)
    else
      some ((GTerm.mk 0 0 [] []), false)
def M_spec_ValueAt (p : GSystem × (List Int) × Int) (r : GTerm × Bool) : Prop :=
  match p with
  | (s0, ty1, k2) => FnSound Try.prog 31 [.agg [.int .i64 s0.fSize, .sl (List.map I s0.fPlus), .sl (List.map I s0.fTimes), .sl (List.map AV.bool s0.fBelow)], .sl (List.map I ty1), .int .i64 k2] (.tup [.agg [.int .i64 r.1.fOp, .int .i64 r.1.fN, .osl (List.map I r.1.fType), .osl (List.map GTerm_O r.1.fKids)], .bool r.2]) []
theorem spec_ValueAt_s : ∀ p r, spec_ValueAt p = some r → M_spec_ValueAt p r := by
  rintro ⟨s0, ty1, k2⟩ r h
  unfold spec_ValueAt at h
  show FnSound Try.prog 31 [.agg [.int .i64 s0.fSize, .sl (List.map I s0.fPlus), .sl (List.map I s0.fTimes), .sl (List.map AV.bool s0.fBelow)], .sl (List.map I ty1), .int .i64 k2] (.tup [.agg [.int .i64 r.1.fOp, .int .i64 r.1.fN, .osl (List.map I r.1.fType), .osl (List.map GTerm_O r.1.fKids)], .bool r.2]) []
  refine FnSound.body0 tiok (fn := Try.f31) (code := B31) (by kernel_rfl) (by kernel_rfl) (by kernel_rfl) (by kernel_rfl) (nt := 19) (by kernel_rfl) (by kernel_rfl) (T := [(0, .agg [.int .i64 s0.fSize, .sl (List.map I s0.fPlus), .sl (List.map I s0.fTimes), .sl (List.map AV.bool s0.fBelow)]), (1, .sl (List.map I ty1)), (2, .int .i64 k2)]) (O := []) (by kernel_rfl) (by kernel_rfl) (fun c hc => ?_)
  refine Wp.seqN (by kernel_rfl) ?_
  refine Wp.reg tiok mix hc (by kernel_rfl) (ah := none) (rs := [some (.new 1), some (.new 2), some (.no)]) (kt := [1, 2, 3, 6]) (ko := [1, 2]) (T' := [(1, .sl (List.map I ty1)), (2, .int .i64 k2), (3, .ra 1 0), (6, .ra 2 0)]) (O' := [(1, .box [.int .i64 s0.fSize, .sl (List.map I s0.fPlus), .sl (List.map I s0.fTimes), .sl (List.map AV.bool s0.fBelow)]), (2, .box [.int .i64 0, .int .i64 0, .nils, .nils])]) (by kernel_rfl) trivial (by kernel_rfl) (by kernel_rfl) ?_
  refine seqQ_norm ?_
  refine Wp.seqN (by kernel_rfl) ?_
  refine Wp.seqN (by kernel_rfl) ?_
  obtain ⟨r_1_3, hr_1_3, h⟩ := bsome h
  obtain ⟨r_1_5, hr_1_5, h⟩ := bsome h
  refine Wp.reg tiok mix hc (by kernel_rfl) (ah := none) (rs := [some (.no), some (.no), some (.no), some (.call (.int .i64 r_1_3) [] 1), some (.no), some (.call (.bool r_1_5) [] 1), some (.no)]) (kt := [1, 2, 6, 14]) (ko := [2]) (T' := [(1, .sl (List.map I ty1)), (2, .int .i64 k2), (6, .ra 2 0), (14, .bool (!r_1_5))]) (O' := [(2, .box [.int .i64 0, .int .i64 0, .nils, .nils])]) (by kernel_rfl) (And.intro (spec_CountValues_s _ _ hr_1_3) (And.intro bod_67 (And.intro (Or.inl rfl : ([] : List Nat) = [] ∨ noSh (.int .i64 r_1_3) = true) (And.intro (spec_l1In_s _ _ hr_1_5) (And.intro bod_57 (And.intro (Or.inl rfl : ([] : List Nat) = [] ∨ noSh (.bool r_1_5) = true) trivial)))))) (by kernel_rfl) (by kernel_rfl) ?_
  refine seqQ_norm ?_
  rcases itesome h with ⟨hb_1, h⟩ | ⟨hb_1, h⟩
  · refine Wp.condF (b := (!r_1_5)) (by kernel_rfl) (by kernel_rfl) (nF hb_1) ?_
    refine Wp.skipN (by kernel_rfl) ?_
    refine seqQ_norm ?_
    refine Wp.seqN (by kernel_rfl) ?_
    obtain ⟨r_3_2, hr_3_2, h⟩ := bsome h
    refine Wp.reg tiok mix hc (by kernel_rfl) (ah := none) (rs := [some (.no), some (.no), some (.call (.agg [.int .i64 r_3_2.fOp, .int .i64 r_3_2.fN, .osl (List.map I r_3_2.fType), .osl (List.map GTerm_O r_3_2.fKids)]) [] 3), some (.no), some (.no)]) (kt := [6, 7]) (ko := [2, 3, 4]) (T' := [(6, .ra 2 0), (7, .bool true)]) (O' := [(2, .box [.int .i64 r_3_2.fOp, .int .i64 r_3_2.fN, .rs 3, .rs 4]), (3, .arr (List.map I r_3_2.fType)), (4, .arr (List.map GTerm_O r_3_2.fKids))]) (by kernel_rfl) (And.intro (spec_l5At_s _ _ hr_3_2) (And.intro bod_77 (And.intro (Or.inl rfl : ([] : List Nat) = [] ∨ noSh (.agg [.int .i64 r_3_2.fOp, .int .i64 r_3_2.fN, .osl (List.map I r_3_2.fType), .osl (List.map GTerm_O r_3_2.fKids)]) = true) trivial))) (by kernel_rfl) (by kernel_rfl) ?_
    refine seqQ_norm ?_
    refine Wp.retN (by kernel_rfl) ?_
    obtain rfl := Option.some.inj h
    exact RetQ.ret (fl := [true, true]) (by kernel_rfl)
  · refine Wp.condT (b := (!r_1_5)) (by kernel_rfl) (by kernel_rfl) (nT hb_1) ?_
    refine Wp.seqN (by kernel_rfl) ?_
    refine Wp.reg tiok mix hc (by kernel_rfl) (ah := none) (rs := [some (.no), some (.no), some (.no)]) (kt := [6, 7]) (ko := [2]) (T' := [(6, .ra 2 0), (7, .bool false)]) (O' := [(2, .box [.int .i64 0, .int .i64 0, .nils, .nils])]) (by kernel_rfl) trivial (by kernel_rfl) (by kernel_rfl) ?_
    refine seqQ_norm ?_
    refine Wp.retN (by kernel_rfl) ?_
    refine seqQ_ret ?_
    obtain rfl := Option.some.inj h
    exact RetQ.ret (fl := [true, true]) (by kernel_rfl)
def impl_within (p : Int × Int × Int) : Option (Bool) :=
  match p with
  | (n0, low1, high2) =>
    (
      if (decide (n0 ≥ low1)) = true then
        some ((decide (n0 ≤ high2)))
      else
        some (false)
    ) >>= fun v_1 =>
    some v_1
def M_impl_within (p : Int × Int × Int) (r : Bool) : Prop :=
  match p with
  | (n0, low1, high2) => FnSound Try.prog 64 [.int .i64 n0, .int .i64 low1, .int .i64 high2] (.bool r) []
theorem impl_within_s : ∀ p r, impl_within p = some r → M_impl_within p r := by
  rintro ⟨n0, low1, high2⟩ r h
  unfold impl_within at h
  show FnSound Try.prog 64 [.int .i64 n0, .int .i64 low1, .int .i64 high2] (.bool r) []
  refine FnSound.body0 tiok (fn := Try.f64) (code := B64) (by kernel_rfl) (by kernel_rfl) (by kernel_rfl) (by kernel_rfl) (nt := 15) (by kernel_rfl) (by kernel_rfl) (T := [(0, .int .i64 n0), (1, .int .i64 low1), (2, .int .i64 high2)]) (O := []) (by kernel_rfl) (by kernel_rfl) (fun c hc => ?_)
  refine Wp.seqN (by kernel_rfl) ?_
  refine Wp.reg tiok mix hc (by kernel_rfl) (ah := none) (rs := [some (.no)]) (kt := [0, 1, 2]) (ko := []) (T' := [(0, .int .i64 n0), (1, .int .i64 low1), (2, .int .i64 high2)]) (O' := []) (by kernel_rfl) trivial (by kernel_rfl) (by kernel_rfl) ?_
  refine seqQ_norm ?_
  refine Wp.seqN (by kernel_rfl) ?_
  obtain ⟨v_1, hj_2, h⟩ := bsome h
  refine Wp.into (x := .normal) (mkS [(6, .bool v_1)] []) ?_ ?_
  · replace h := hj_2
    rcases itesome h with ⟨hb_1_0, h⟩ | ⟨hb_1_0, h⟩
    · refine Wp.reg tiok mix hc (by kernel_rfl) (ah := none) (rs := [some (.no), some (.no), some (.no), some (.no), some (.no), some (.no), some (.no), some (.cond true), some (.no)]) (kt := [6]) (ko := []) (T' := [(6, .bool (decide (n0 ≤ high2)))]) (O' := []) (by kernel_rfl) (And.intro hb_1_0 (And.intro hb_1_0 (And.intro hb_1_0 (And.intro hb_1_0 trivial)))) (by kernel_rfl) (by kernel_rfl) ?_
      obtain rfl := Option.some.inj h
      exact Into.mk
    · refine Wp.reg tiok mix hc (by kernel_rfl) (ah := none) (rs := [some (.no), some (.no), some (.no), some (.no), none, none, none, some (.cond false), some (.no)]) (kt := [6]) (ko := []) (T' := [(6, .bool false)]) (O' := []) (by kernel_rfl) (And.intro (neT hb_1_0 : (decide (n0 ≥ low1)) ≠ true) (And.intro (neT hb_1_0 : (decide (n0 ≥ low1)) ≠ true) (And.intro (neT hb_1_0 : (decide (n0 ≥ low1)) ≠ true) (And.intro hb_1_0 trivial)))) (by kernel_rfl) (by kernel_rfl) ?_
      obtain rfl := Option.some.inj h
      exact Into.mk
  · clear hj_2
    refine seqQ_norm ?_
    refine Wp.retN (by kernel_rfl) ?_
    obtain rfl := Option.some.inj h
    exact RetQ.ret (fl := [true]) (by kernel_rfl)
def impl_shape (code0 : Int) : Option (Int × Int) :=
    (impl_within (code0, 0, 2)) >>= fun r_1_1 =>
    if r_1_1 = true then
      some (code0, (-1))
    else
      (impl_within (code0, 3, 18)) >>= fun r_3_1 =>
      if r_3_1 = true then
        some (3, (wr (code0 - 3)))
      else
        (impl_within (code0, 19, 34)) >>= fun r_5_1 =>
        if r_5_1 = true then
          some (4, (wr (code0 - 19)))
        else
          if (code0 == 35) = true then
            some (3, (-1))
          else
            if (code0 == 36) = true then
              some (4, (-1))
            else
              some (5, (-1))
def M_impl_shape (code0 : Int) (r : Int × Int) : Prop :=
  FnSound Try.prog 103 [.int .i64 code0] (.tup [.int .i64 r.1, .int .i64 r.2]) []
theorem impl_shape_s : ∀ p r, impl_shape p = some r → M_impl_shape p r := by
  rintro code0 r h
  unfold impl_shape at h
  show FnSound Try.prog 103 [.int .i64 code0] (.tup [.int .i64 r.1, .int .i64 r.2]) []
  refine FnSound.body0 tiok (fn := Try.f103) (code := B103) (by kernel_rfl) (by kernel_rfl) (by kernel_rfl) (by kernel_rfl) (nt := 24) (by kernel_rfl) (by kernel_rfl) (T := [(0, .int .i64 code0)]) (O := []) (by kernel_rfl) (by kernel_rfl) (fun c hc => ?_)
  refine Wp.seqN (by kernel_rfl) ?_
  refine Wp.reg tiok mix hc (by kernel_rfl) (ah := none) (rs := [some (.no), some (.no)]) (kt := [0]) (ko := []) (T' := [(0, .int .i64 code0)]) (O' := []) (by kernel_rfl) trivial (by kernel_rfl) (by kernel_rfl) ?_
  refine seqQ_norm ?_
  refine Wp.seqN (by kernel_rfl) ?_
  refine Wp.blockN (i := 0) (by kernel_rfl) ?_
  refine Wp.seqN (by kernel_rfl) ?_
  obtain ⟨r_1_1, hr_1_1, h⟩ := bsome h
  refine Wp.reg tiok mix hc (by kernel_rfl) (ah := none) (rs := [some (.no), some (.call (.bool r_1_1) [] 1), some (.no)]) (kt := [0, 4]) (ko := []) (T' := [(0, .int .i64 code0), (4, .bool r_1_1)]) (O' := []) (by kernel_rfl) (And.intro (impl_within_s _ _ hr_1_1) (And.intro bod_64 (And.intro (Or.inl rfl : ([] : List Nat) = [] ∨ noSh (.bool r_1_1) = true) trivial))) (by kernel_rfl) (by kernel_rfl) ?_
  refine seqQ_norm ?_
  rcases itesome h with ⟨hb_1, h⟩ | ⟨hb_1, h⟩
  · refine Wp.condT (b := r_1_1) (by kernel_rfl) (by kernel_rfl) hb_1 ?_
    refine Wp.seqN (by kernel_rfl) ?_
    refine Wp.reg tiok mix hc (by kernel_rfl) (ah := none) (rs := [some (.no), some (.no), some (.no)]) (kt := [2, 3]) (ko := []) (T' := [(2, .int .i64 code0), (3, .int .i64 (-1))]) (O' := []) (by kernel_rfl) trivial (by kernel_rfl) (by kernel_rfl) ?_
    refine seqQ_norm ?_
    refine Wp.retN (by kernel_rfl) ?_
    refine blockQ_ret ?_
    refine seqQ_ret ?_
    obtain rfl := Option.some.inj h
    exact RetQ.ret (fl := [true, true]) (by kernel_rfl)
  · refine Wp.condF (b := r_1_1) (by kernel_rfl) (by kernel_rfl) hb_1 ?_
    refine Wp.seqN (by kernel_rfl) ?_
    obtain ⟨r_3_1, hr_3_1, h⟩ := bsome h
    refine Wp.reg tiok mix hc (by kernel_rfl) (ah := none) (rs := [some (.no), some (.call (.bool r_3_1) [] 1), some (.no)]) (kt := [0, 8]) (ko := []) (T' := [(0, .int .i64 code0), (8, .bool r_3_1)]) (O' := []) (by kernel_rfl) (And.intro (impl_within_s _ _ hr_3_1) (And.intro bod_64 (And.intro (Or.inl rfl : ([] : List Nat) = [] ∨ noSh (.bool r_3_1) = true) trivial))) (by kernel_rfl) (by kernel_rfl) ?_
    refine seqQ_norm ?_
    rcases itesome h with ⟨hb_2, h⟩ | ⟨hb_2, h⟩
    · refine Wp.condT (b := r_3_1) (by kernel_rfl) (by kernel_rfl) hb_2 ?_
      refine Wp.seqN (by kernel_rfl) ?_
      refine Wp.reg tiok mix hc (by kernel_rfl) (ah := none) (rs := [some (.no), some (.no), some (.no), some (.no)]) (kt := [2, 3]) (ko := []) (T' := [(2, .int .i64 3), (3, .int .i64 (wr (code0 - 3)))]) (O' := []) (by kernel_rfl) trivial (by kernel_rfl) (by kernel_rfl) ?_
      refine seqQ_norm ?_
      refine Wp.retN (by kernel_rfl) ?_
      refine blockQ_ret ?_
      refine seqQ_ret ?_
      obtain rfl := Option.some.inj h
      exact RetQ.ret (fl := [true, true]) (by kernel_rfl)
    · refine Wp.condF (b := r_3_1) (by kernel_rfl) (by kernel_rfl) hb_2 ?_
      refine Wp.seqN (by kernel_rfl) ?_
      obtain ⟨r_5_1, hr_5_1, h⟩ := bsome h
      refine Wp.reg tiok mix hc (by kernel_rfl) (ah := none) (rs := [some (.no), some (.call (.bool r_5_1) [] 1), some (.no)]) (kt := [0, 13]) (ko := []) (T' := [(0, .int .i64 code0), (13, .bool r_5_1)]) (O' := []) (by kernel_rfl) (And.intro (impl_within_s _ _ hr_5_1) (And.intro bod_64 (And.intro (Or.inl rfl : ([] : List Nat) = [] ∨ noSh (.bool r_5_1) = true) trivial))) (by kernel_rfl) (by kernel_rfl) ?_
      refine seqQ_norm ?_
      rcases itesome h with ⟨hb_3, h⟩ | ⟨hb_3, h⟩
      · refine Wp.condT (b := r_5_1) (by kernel_rfl) (by kernel_rfl) hb_3 ?_
        refine Wp.seqN (by kernel_rfl) ?_
        refine Wp.reg tiok mix hc (by kernel_rfl) (ah := none) (rs := [some (.no), some (.no), some (.no), some (.no)]) (kt := [2, 3]) (ko := []) (T' := [(2, .int .i64 4), (3, .int .i64 (wr (code0 - 19)))]) (O' := []) (by kernel_rfl) trivial (by kernel_rfl) (by kernel_rfl) ?_
        refine seqQ_norm ?_
        refine Wp.retN (by kernel_rfl) ?_
        refine blockQ_ret ?_
        refine seqQ_ret ?_
        obtain rfl := Option.some.inj h
        exact RetQ.ret (fl := [true, true]) (by kernel_rfl)
      · refine Wp.condF (b := r_5_1) (by kernel_rfl) (by kernel_rfl) hb_3 ?_
        refine Wp.seqN (by kernel_rfl) ?_
        refine Wp.reg tiok mix hc (by kernel_rfl) (ah := none) (rs := [some (.no), some (.no), some (.no)]) (kt := [0, 18]) (ko := []) (T' := [(0, .int .i64 code0), (18, .bool (code0 == 35))]) (O' := []) (by kernel_rfl) trivial (by kernel_rfl) (by kernel_rfl) ?_
        refine seqQ_norm ?_
        rcases itesome h with ⟨hb_4, h⟩ | ⟨hb_4, h⟩
        · refine Wp.condT (b := (code0 == 35)) (by kernel_rfl) (by kernel_rfl) hb_4 ?_
          refine Wp.seqN (by kernel_rfl) ?_
          refine Wp.reg tiok mix hc (by kernel_rfl) (ah := none) (rs := [some (.no), some (.no)]) (kt := [2, 3]) (ko := []) (T' := [(2, .int .i64 3), (3, .int .i64 (-1))]) (O' := []) (by kernel_rfl) trivial (by kernel_rfl) (by kernel_rfl) ?_
          refine seqQ_norm ?_
          refine Wp.retN (by kernel_rfl) ?_
          refine blockQ_ret ?_
          refine seqQ_ret ?_
          obtain rfl := Option.some.inj h
          exact RetQ.ret (fl := [true, true]) (by kernel_rfl)
        · refine Wp.condF (b := (code0 == 35)) (by kernel_rfl) (by kernel_rfl) hb_4 ?_
          refine Wp.seqN (by kernel_rfl) ?_
          refine Wp.reg tiok mix hc (by kernel_rfl) (ah := none) (rs := [some (.no), some (.no), some (.no)]) (kt := [21]) (ko := []) (T' := [(21, .bool (code0 == 36))]) (O' := []) (by kernel_rfl) trivial (by kernel_rfl) (by kernel_rfl) ?_
          refine seqQ_norm ?_
          rcases itesome h with ⟨hb_5, h⟩ | ⟨hb_5, h⟩
          · refine Wp.condT (b := (code0 == 36)) (by kernel_rfl) (by kernel_rfl) hb_5 ?_
            refine Wp.seqN (by kernel_rfl) ?_
            refine Wp.reg tiok mix hc (by kernel_rfl) (ah := none) (rs := [some (.no), some (.no)]) (kt := [2, 3]) (ko := []) (T' := [(2, .int .i64 4), (3, .int .i64 (-1))]) (O' := []) (by kernel_rfl) trivial (by kernel_rfl) (by kernel_rfl) ?_
            refine seqQ_norm ?_
            refine Wp.retN (by kernel_rfl) ?_
            refine blockQ_ret ?_
            refine seqQ_ret ?_
            obtain rfl := Option.some.inj h
            exact RetQ.ret (fl := [true, true]) (by kernel_rfl)
          · refine Wp.condF (b := (code0 == 36)) (by kernel_rfl) (by kernel_rfl) hb_5 ?_
            refine Wp.skipN (by kernel_rfl) ?_
            refine blockQ_norm ?_
            refine seqQ_norm ?_
            refine Wp.seqN (by kernel_rfl) ?_
            refine Wp.reg tiok mix hc (by kernel_rfl) (ah := none) (rs := [some (.no), some (.no)]) (kt := [2, 3]) (ko := []) (T' := [(2, .int .i64 5), (3, .int .i64 (-1))]) (O' := []) (by kernel_rfl) trivial (by kernel_rfl) (by kernel_rfl) ?_
            refine seqQ_norm ?_
            refine Wp.retN (by kernel_rfl) ?_
            obtain rfl := Option.some.inj h
            exact RetQ.ret (fl := [true, true]) (by kernel_rfl)
def impl_typeEnd (p : (List Int) × Int) : Option (Int) :=
  match p with
  | (ty0, at1) =>
    (
      if (decide (at1 < 0)) = true then
        some (true)
      else
        some ((decide (at1 ≥ (ty0.length : Int))))
    ) >>= fun v_1 =>
    if v_1 = true then
      some (-1)
    else
      (idx ty0 at1) >>= fun e_3_2 =>
      (impl_shape e_3_2) >>= fun (r_3_4_0, r_3_4_1) =>
      if (r_3_4_0 == 0) = true then
        some (wr (at1 + 1))
      else
        if (r_3_4_0 == 4) = true then
          (impl_typeEnd (ty0, (wr (at1 + 1)))) >>= fun r_8_3 =>
          some r_8_3
        else
          if (r_3_4_0 == 5) = true then
            some (-1)
          else
            (impl_typeEnd (ty0, (wr (at1 + 1)))) >>= fun r_11_4 =>
            (impl_typeEnd (ty0, r_11_4)) >>= fun r_11_5 =>
            some r_11_5
  partial_fixpoint
def M_impl_typeEnd (p : (List Int) × Int) (r : Int) : Prop :=
  match p with
  | (ty0, at1) => FnSound Try.prog 151 [.sl (List.map I ty0), .int .i64 at1] (.int .i64 r) []
theorem impl_typeEnd_s : ∀ p r, impl_typeEnd p = some r → M_impl_typeEnd p r := by
  refine impl_typeEnd.partial_correctness M_impl_typeEnd ?_
  rintro impl_typeEnd_f impl_typeEnd_ih ⟨ty0, at1⟩ r h
  show FnSound Try.prog 151 [.sl (List.map I ty0), .int .i64 at1] (.int .i64 r) []
  refine FnSound.body0 tiok (fn := Try.f151) (code := B151) (by kernel_rfl) (by kernel_rfl) (by kernel_rfl) (by kernel_rfl) (nt := 42) (by kernel_rfl) (by kernel_rfl) (T := [(0, .sl (List.map I ty0)), (1, .int .i64 at1)]) (O := []) (by kernel_rfl) (by kernel_rfl) (fun c hc => ?_)
  refine Wp.seqN (by kernel_rfl) ?_
  refine Wp.reg tiok mix hc (by kernel_rfl) (ah := none) (rs := [some (.no)]) (kt := [0, 1]) (ko := []) (T' := [(0, .sl (List.map I ty0)), (1, .int .i64 at1)]) (O' := []) (by kernel_rfl) trivial (by kernel_rfl) (by kernel_rfl) ?_
  refine seqQ_norm ?_
  refine Wp.seqN (by kernel_rfl) ?_
  refine Wp.seqN (by kernel_rfl) ?_
  obtain ⟨v_1, hj_2, h⟩ := bsome h
  refine Wp.into (x := .normal) (mkS [(0, .sl (List.map I ty0)), (1, .int .i64 at1), (14, .bool v_1)] []) ?_ ?_
  · replace h := hj_2
    rcases itesome h with ⟨hb_1_0, h⟩ | ⟨hb_1_0, h⟩
    · refine Wp.reg tiok mix hc (by kernel_rfl) (ah := none) (rs := [some (.no), some (.no), some (.no), none, none, none, none, some (.cond true)]) (kt := [0, 1, 14]) (ko := []) (T' := [(0, .sl (List.map I ty0)), (1, .int .i64 at1), (14, .bool true)]) (O' := []) (by kernel_rfl) (And.intro (neF hb_1_0 : (decide (at1 < 0)) ≠ false) (And.intro (neF hb_1_0 : (decide (at1 < 0)) ≠ false) (And.intro (neF hb_1_0 : (decide (at1 < 0)) ≠ false) (And.intro (neF hb_1_0 : (decide (at1 < 0)) ≠ false) (And.intro hb_1_0 trivial))))) (by kernel_rfl) (by kernel_rfl) ?_
      obtain rfl := Option.some.inj h
      exact Into.mk
    · refine Wp.reg tiok mix hc (by kernel_rfl) (ah := none) (rs := [some (.no), some (.no), some (.no), some (.no), some (.no), some (.eqv (.no) ⟨[(12, .int .i64 (ty0.length : Int))], [], []⟩), some (.no), some (.cond false)]) (kt := [0, 1, 14]) (ko := []) (T' := [(0, .sl (List.map I ty0)), (1, .int .i64 at1), (14, .bool (decide (at1 ≥ (ty0.length : Int))))]) (O' := []) (by kernel_rfl) (And.intro hb_1_0 (And.intro hb_1_0 (And.intro hb_1_0 (And.intro (lenT (d := 12) I ty0) (And.intro hb_1_0 (And.intro hb_1_0 trivial)))))) (by kernel_rfl) (by kernel_rfl) ?_
      obtain rfl := Option.some.inj h
      exact Into.mk
  · clear hj_2
    refine seqQ_norm ?_
    rcases itesome h with ⟨hb_3, h⟩ | ⟨hb_3, h⟩
    · refine Wp.condT (b := v_1) (by kernel_rfl) (by kernel_rfl) hb_3 ?_
      refine Wp.seqN (by kernel_rfl) ?_
      refine Wp.reg tiok mix hc (by kernel_rfl) (ah := none) (rs := [some (.no)]) (kt := [4]) (ko := []) (T' := [(4, .int .i64 (-1))]) (O' := []) (by kernel_rfl) trivial (by kernel_rfl) (by kernel_rfl) ?_
      refine seqQ_norm ?_
      refine Wp.retN (by kernel_rfl) ?_
      refine seqQ_ret ?_
      obtain rfl := Option.some.inj h
      exact RetQ.ret (fl := [true]) (by kernel_rfl)
    · refine Wp.condF (b := v_1) (by kernel_rfl) (by kernel_rfl) hb_3 ?_
      refine Wp.skipN (by kernel_rfl) ?_
      refine seqQ_norm ?_
      refine Wp.seqN (by kernel_rfl) ?_
      obtain ⟨e_3_2, hi_3_2, h⟩ := bsome h
      obtain ⟨⟨r_3_4_0, r_3_4_1⟩, hr_3_4, h⟩ := bsome h
      refine Wp.reg tiok mix hc (by kernel_rfl) (ah := none) (rs := [some (.no), some (.no), some (.el (.int .i64 e_3_2)), some (.no), some (.call (.tup [.int .i64 r_3_4_0, .int .i64 r_3_4_1]) [] 1), some (.no), some (.no), some (.no), some (.no), some (.no)]) (kt := [0, 1, 5]) (ko := []) (T' := [(0, .sl (List.map I ty0)), (1, .int .i64 at1), (5, .int .i64 r_3_4_0)]) (O' := []) (by kernel_rfl) (And.intro (idx_sl (enc := I) (x := .int .i64 e_3_2) hi_3_2 (eq_I e_3_2)) (And.intro (impl_shape_s _ _ hr_3_4) (And.intro bod_103 (And.intro (Or.inl rfl : ([] : List Nat) = [] ∨ noSh (.tup [.int .i64 r_3_4_0, .int .i64 r_3_4_1]) = true) trivial)))) (by kernel_rfl) (by kernel_rfl) ?_
      refine seqQ_norm ?_
      refine Wp.seqN (by kernel_rfl) ?_
      refine Wp.seqN (by kernel_rfl) ?_
      refine Wp.reg tiok mix hc (by kernel_rfl) (ah := none) (rs := [some (.no)]) (kt := [0, 1, 23]) (ko := []) (T' := [(0, .sl (List.map I ty0)), (1, .int .i64 at1), (23, .int .i64 r_3_4_0)]) (O' := []) (by kernel_rfl) trivial (by kernel_rfl) (by kernel_rfl) ?_
      refine seqQ_norm ?_
      refine Wp.blockN (i := 0) (by kernel_rfl) ?_
      refine Wp.seqN (by kernel_rfl) ?_
      refine Wp.reg tiok mix hc (by kernel_rfl) (ah := none) (rs := [some (.no), some (.no)]) (kt := [0, 1, 23, 24]) (ko := []) (T' := [(0, .sl (List.map I ty0)), (1, .int .i64 at1), (23, .int .i64 r_3_4_0), (24, .bool (r_3_4_0 == 0))]) (O' := []) (by kernel_rfl) trivial (by kernel_rfl) (by kernel_rfl) ?_
      refine seqQ_norm ?_
      rcases itesome h with ⟨hb_4, h⟩ | ⟨hb_4, h⟩
      · refine Wp.condT (b := (r_3_4_0 == 0)) (by kernel_rfl) (by kernel_rfl) hb_4 ?_
        refine Wp.seqN (by kernel_rfl) ?_
        refine Wp.reg tiok mix hc (by kernel_rfl) (ah := none) (rs := [some (.no), some (.no), some (.no)]) (kt := [4]) (ko := []) (T' := [(4, .int .i64 (wr (at1 + 1)))]) (O' := []) (by kernel_rfl) trivial (by kernel_rfl) (by kernel_rfl) ?_
        refine seqQ_norm ?_
        refine Wp.retN (by kernel_rfl) ?_
        refine blockQ_ret ?_
        refine seqQ_ret ?_
        obtain rfl := Option.some.inj h
        exact RetQ.ret (fl := [true]) (by kernel_rfl)
      · refine Wp.condF (b := (r_3_4_0 == 0)) (by kernel_rfl) (by kernel_rfl) hb_4 ?_
        refine Wp.seqN (by kernel_rfl) ?_
        refine Wp.reg tiok mix hc (by kernel_rfl) (ah := none) (rs := [some (.no), some (.no)]) (kt := [0, 1, 23, 28]) (ko := []) (T' := [(0, .sl (List.map I ty0)), (1, .int .i64 at1), (23, .int .i64 r_3_4_0), (28, .bool (r_3_4_0 == 4))]) (O' := []) (by kernel_rfl) trivial (by kernel_rfl) (by kernel_rfl) ?_
        refine seqQ_norm ?_
        rcases itesome h with ⟨hb_5, h⟩ | ⟨hb_5, h⟩
        · refine Wp.condT (b := (r_3_4_0 == 4)) (by kernel_rfl) (by kernel_rfl) hb_5 ?_
          refine Wp.seqN (by kernel_rfl) ?_
          obtain ⟨r_8_3, hr_8_3, h⟩ := bsome h
          refine Wp.reg tiok mix hc (by kernel_rfl) (ah := none) (rs := [some (.no), some (.no), some (.no), some (.call (.int .i64 r_8_3) [] 1), some (.no)]) (kt := [4]) (ko := []) (T' := [(4, .int .i64 r_8_3)]) (O' := []) (by kernel_rfl) (And.intro (impl_typeEnd_ih _ _ hr_8_3) (And.intro bod_151 (And.intro (Or.inl rfl : ([] : List Nat) = [] ∨ noSh (.int .i64 r_8_3) = true) trivial))) (by kernel_rfl) (by kernel_rfl) ?_
          refine seqQ_norm ?_
          refine Wp.retN (by kernel_rfl) ?_
          refine blockQ_ret ?_
          refine seqQ_ret ?_
          obtain rfl := Option.some.inj h
          exact RetQ.ret (fl := [true]) (by kernel_rfl)
        · refine Wp.condF (b := (r_3_4_0 == 4)) (by kernel_rfl) (by kernel_rfl) hb_5 ?_
          refine Wp.seqN (by kernel_rfl) ?_
          refine Wp.reg tiok mix hc (by kernel_rfl) (ah := none) (rs := [some (.no), some (.no)]) (kt := [0, 1, 34]) (ko := []) (T' := [(0, .sl (List.map I ty0)), (1, .int .i64 at1), (34, .bool (r_3_4_0 == 5))]) (O' := []) (by kernel_rfl) trivial (by kernel_rfl) (by kernel_rfl) ?_
          refine seqQ_norm ?_
          rcases itesome h with ⟨hb_6, h⟩ | ⟨hb_6, h⟩
          · refine Wp.condT (b := (r_3_4_0 == 5)) (by kernel_rfl) (by kernel_rfl) hb_6 ?_
            refine Wp.seqN (by kernel_rfl) ?_
            refine Wp.reg tiok mix hc (by kernel_rfl) (ah := none) (rs := [some (.no)]) (kt := [4]) (ko := []) (T' := [(4, .int .i64 (-1))]) (O' := []) (by kernel_rfl) trivial (by kernel_rfl) (by kernel_rfl) ?_
            refine seqQ_norm ?_
            refine Wp.retN (by kernel_rfl) ?_
            refine blockQ_ret ?_
            refine seqQ_ret ?_
            obtain rfl := Option.some.inj h
            exact RetQ.ret (fl := [true]) (by kernel_rfl)
          · refine Wp.condF (b := (r_3_4_0 == 5)) (by kernel_rfl) (by kernel_rfl) hb_6 ?_
            refine Wp.skipN (by kernel_rfl) ?_
            refine blockQ_norm ?_
            refine seqQ_norm ?_
            refine Wp.seqN (by kernel_rfl) ?_
            obtain ⟨r_11_4, hr_11_4, h⟩ := bsome h
            obtain ⟨r_11_5, hr_11_5, h⟩ := bsome h
            refine Wp.reg tiok mix hc (by kernel_rfl) (ah := none) (rs := [some (.no), some (.no), some (.no), some (.no), some (.call (.int .i64 r_11_4) [] 1), some (.call (.int .i64 r_11_5) [] 1), some (.no)]) (kt := [4]) (ko := []) (T' := [(4, .int .i64 r_11_5)]) (O' := []) (by kernel_rfl) (And.intro (impl_typeEnd_ih _ _ hr_11_4) (And.intro bod_151 (And.intro (Or.inl rfl : ([] : List Nat) = [] ∨ noSh (.int .i64 r_11_4) = true) (And.intro (impl_typeEnd_ih _ _ hr_11_5) (And.intro bod_151 (And.intro (Or.inl rfl : ([] : List Nat) = [] ∨ noSh (.int .i64 r_11_5) = true) trivial)))))) (by kernel_rfl) (by kernel_rfl) ?_
            refine seqQ_norm ?_
            refine Wp.retN (by kernel_rfl) ?_
            obtain rfl := Option.some.inj h
            exact RetQ.ret (fl := [true]) (by kernel_rfl)
def impl_isWrittenType (ty0 : (List Int)) : Option (Bool) :=
    (
      (impl_within ((ty0.length : Int), 1, 40)) >>= fun r_1_2 =>
      if r_1_2 = true then
        (impl_typeEnd (ty0, 0)) >>= fun r_1_5 =>
        some ((r_1_5 == (ty0.length : Int)))
      else
        some (false)
    ) >>= fun v_1 =>
    some v_1
def M_impl_isWrittenType (ty0 : (List Int)) (r : Bool) : Prop :=
  FnSound Try.prog 150 [.sl (List.map I ty0)] (.bool r) []
theorem impl_isWrittenType_s : ∀ p r, impl_isWrittenType p = some r → M_impl_isWrittenType p r := by
  rintro ty0 r h
  unfold impl_isWrittenType at h
  show FnSound Try.prog 150 [.sl (List.map I ty0)] (.bool r) []
  refine FnSound.body0 tiok (fn := Try.f150) (code := B150) (by kernel_rfl) (by kernel_rfl) (by kernel_rfl) (by kernel_rfl) (nt := 13) (by kernel_rfl) (by kernel_rfl) (T := [(0, .sl (List.map I ty0))]) (O := []) (by kernel_rfl) (by kernel_rfl) (fun c hc => ?_)
  refine Wp.seqN (by kernel_rfl) ?_
  refine Wp.reg tiok mix hc (by kernel_rfl) (ah := none) (rs := [some (.no)]) (kt := [0]) (ko := []) (T' := [(0, .sl (List.map I ty0))]) (O' := []) (by kernel_rfl) trivial (by kernel_rfl) (by kernel_rfl) ?_
  refine seqQ_norm ?_
  refine Wp.seqN (by kernel_rfl) ?_
  obtain ⟨v_1, hj_2, h⟩ := bsome h
  refine Wp.into (x := .normal) (mkS [(2, .bool v_1)] []) ?_ ?_
  · replace h := hj_2
    obtain ⟨r_1_2, hr_1_2, h⟩ := bsome h
    rcases itesome h with ⟨hb_1_0, h⟩ | ⟨hb_1_0, h⟩
    · obtain ⟨r_1_5, hr_1_5, h⟩ := bsome h
      refine Wp.reg tiok mix hc (by kernel_rfl) (ah := none) (rs := [some (.no), some (.eqv (.no) ⟨[(4, .int .i64 (ty0.length : Int))], [], []⟩), some (.call (.bool r_1_2) [] 1), some (.no), some (.no), some (.call (.int .i64 r_1_5) [] 1), some (.no), some (.eqv (.no) ⟨[(10, .int .i64 (ty0.length : Int))], [], []⟩), some (.no), some (.cond true), some (.no)]) (kt := [2]) (ko := []) (T' := [(2, .bool (r_1_5 == (ty0.length : Int)))]) (O' := []) (by kernel_rfl) (And.intro (lenT (d := 4) I ty0) (And.intro (impl_within_s _ _ hr_1_2) (And.intro bod_64 (And.intro (Or.inl rfl : ([] : List Nat) = [] ∨ noSh (.bool r_1_2) = true) (And.intro hb_1_0 (And.intro hb_1_0 (And.intro (impl_typeEnd_s _ _ hr_1_5) (And.intro bod_151 (And.intro (Or.inl rfl : ([] : List Nat) = [] ∨ noSh (.int .i64 r_1_5) = true) (And.intro hb_1_0 (And.intro hb_1_0 (And.intro (lenT (d := 10) I ty0) (And.intro hb_1_0 (And.intro hb_1_0 trivial)))))))))))))) (by kernel_rfl) (by kernel_rfl) ?_
      obtain rfl := Option.some.inj h
      exact Into.mk
    · refine Wp.reg tiok mix hc (by kernel_rfl) (ah := none) (rs := [some (.no), some (.eqv (.no) ⟨[(4, .int .i64 (ty0.length : Int))], [], []⟩), some (.call (.bool r_1_2) [] 1), some (.no), none, none, none, none, none, some (.cond false), some (.no)]) (kt := [2]) (ko := []) (T' := [(2, .bool false)]) (O' := []) (by kernel_rfl) (And.intro (lenT (d := 4) I ty0) (And.intro (impl_within_s _ _ hr_1_2) (And.intro bod_64 (And.intro (Or.inl rfl : ([] : List Nat) = [] ∨ noSh (.bool r_1_2) = true) (And.intro (neT hb_1_0 : r_1_2 ≠ true) (And.intro (neT hb_1_0 : r_1_2 ≠ true) (And.intro (neT hb_1_0 : r_1_2 ≠ true) (And.intro (neT hb_1_0 : r_1_2 ≠ true) (And.intro (neT hb_1_0 : r_1_2 ≠ true) (And.intro hb_1_0 trivial)))))))))) (by kernel_rfl) (by kernel_rfl) ?_
      obtain rfl := Option.some.inj h
      exact Into.mk
  · clear hj_2
    refine seqQ_norm ?_
    refine Wp.retN (by kernel_rfl) ?_
    obtain rfl := Option.some.inj h
    exact RetQ.ret (fl := [true]) (by kernel_rfl)
def impl_Systemhas (p : GSystem × Int) : Option (Bool) :=
  match p with
  | (s0, g1) =>
    (impl_within (g1, 0, (wr (s0.fSize - 1)))) >>= fun r_1_4 =>
    some r_1_4
def M_impl_Systemhas (p : GSystem × Int) (r : Bool) : Prop :=
  match p with
  | (s0, g1) => FnSound Try.prog 117 [.agg [.int .i64 s0.fSize, .sl (List.map I s0.fPlus), .sl (List.map I s0.fTimes), .sl (List.map AV.bool s0.fBelow)], .int .i64 g1] (.bool r) []
theorem impl_Systemhas_s : ∀ p r, impl_Systemhas p = some r → M_impl_Systemhas p r := by
  rintro ⟨s0, g1⟩ r h
  unfold impl_Systemhas at h
  show FnSound Try.prog 117 [.agg [.int .i64 s0.fSize, .sl (List.map I s0.fPlus), .sl (List.map I s0.fTimes), .sl (List.map AV.bool s0.fBelow)], .int .i64 g1] (.bool r) []
  refine FnSound.body0 tiok (fn := Try.f117) (code := B117) (by kernel_rfl) (by kernel_rfl) (by kernel_rfl) (by kernel_rfl) (nt := 10) (by kernel_rfl) (by kernel_rfl) (T := [(0, .agg [.int .i64 s0.fSize, .sl (List.map I s0.fPlus), .sl (List.map I s0.fTimes), .sl (List.map AV.bool s0.fBelow)]), (1, .int .i64 g1)]) (O := []) (by kernel_rfl) (by kernel_rfl) (fun c hc => ?_)
  refine Wp.seqN (by kernel_rfl) ?_
  refine Wp.reg tiok mix hc (by kernel_rfl) (ah := none) (rs := [some (.new 1), some (.no)]) (kt := [1, 2]) (ko := [1]) (T' := [(1, .int .i64 g1), (2, .ra 1 0)]) (O' := [(1, .box [.int .i64 s0.fSize, .sl (List.map I s0.fPlus), .sl (List.map I s0.fTimes), .sl (List.map AV.bool s0.fBelow)])]) (by kernel_rfl) trivial (by kernel_rfl) (by kernel_rfl) ?_
  refine seqQ_norm ?_
  refine Wp.seqN (by kernel_rfl) ?_
  obtain ⟨r_1_4, hr_1_4, h⟩ := bsome h
  refine Wp.reg tiok mix hc (by kernel_rfl) (ah := none) (rs := [some (.no), some (.no), some (.no), some (.no), some (.call (.bool r_1_4) [] 1), some (.no)]) (kt := [4]) (ko := []) (T' := [(4, .bool r_1_4)]) (O' := []) (by kernel_rfl) (And.intro (impl_within_s _ _ hr_1_4) (And.intro bod_64 (And.intro (Or.inl rfl : ([] : List Nat) = [] ∨ noSh (.bool r_1_4) = true) trivial))) (by kernel_rfl) (by kernel_rfl) ?_
  refine seqQ_norm ?_
  refine Wp.retN (by kernel_rfl) ?_
  obtain rfl := Option.some.inj h
  exact RetQ.ret (fl := [true]) (by kernel_rfl)
def impl_isTypeOf_F1 (c : Ctx) : (Unit) ⊕ (Bool) → Exit → AState → Prop
  | .inl _ => Into c (.exit 0) (mkS [] [])
  | .inr r => RetE TIx Try.f102 [] (.bool r)
def impl_isTypeOf_l0 (p : GSystem × (List Int) × Int) : Option ((Unit) ⊕ (Bool)) :=
  match p with
  | (s0, ty1, w_6) =>
    if (decide (w_6 < (ty1.length : Int))) = true then
      (idx ty1 w_6) >>= fun e_5_0 =>
      (impl_shape e_5_0) >>= fun (r_6_1_0, r_6_1_1) =>
      (
        if (r_6_1_0 == 3) = true then
          (impl_Systemhas (s0, r_6_1_1)) >>= fun r_7_9 =>
          some ((!r_7_9))
        else
          if (r_6_1_0 == 4) = true then
            (impl_Systemhas (s0, r_6_1_1)) >>= fun r_7_9 =>
            some ((!r_7_9))
          else
            some (false)
      ) >>= fun v_8 =>
      if v_8 = true then
        some (.inr false)
      else
        impl_isTypeOf_l0 (s0, ty1, (wr (w_6 + 1)))
    else
      some (.inl ())
  partial_fixpoint
def M_impl_isTypeOf_l0 (p : GSystem × (List Int) × Int) (fl : (Unit) ⊕ (Bool)) : Prop :=
  match p with
  | (s0, ty1, w_6) => ∀ c : Ctx, c.nt = 36 → WpL Try.prog c (cl (cl (cr (cl (cr (cr B102)))))) (impl_isTypeOf_F1 c fl) (mkS [(2, .ra 1 0), (12, .sl (List.map I ty1)), (13, .int .i64 (ty1.length : Int)), (14, .int .i64 w_6)] [(1, .box [.int .i64 s0.fSize, .sl (List.map I s0.fPlus), .sl (List.map I s0.fTimes), .sl (List.map AV.bool s0.fBelow)])])
theorem impl_isTypeOf_l0_s : ∀ p r, impl_isTypeOf_l0 p = some r → M_impl_isTypeOf_l0 p r := by
  refine impl_isTypeOf_l0.partial_correctness M_impl_isTypeOf_l0 ?_
  rintro impl_isTypeOf_l0_f impl_isTypeOf_l0_ih ⟨s0, ty1, w_6⟩ r h
  intro c hc
  show WpL Try.prog c (cl (cl (cr (cl (cr (cr B102)))))) (impl_isTypeOf_F1 c r) (mkS [(2, .ra 1 0), (12, .sl (List.map I ty1)), (13, .int .i64 (ty1.length : Int)), (14, .int .i64 w_6)] [(1, .box [.int .i64 s0.fSize, .sl (List.map I s0.fPlus), .sl (List.map I s0.fTimes), .sl (List.map AV.bool s0.fBelow)])])
  refine WpL.step ?_
  refine Wp.seqN (by kernel_rfl) ?_
  refine Wp.reg tiok mix hc (by kernel_rfl) (ah := none) (rs := [some (.no)]) (kt := [2, 12, 13, 14, 15]) (ko := [1]) (T' := [(2, .ra 1 0), (12, .sl (List.map I ty1)), (13, .int .i64 (ty1.length : Int)), (14, .int .i64 w_6), (15, .bool (decide (w_6 < (ty1.length : Int))))]) (O' := [(1, .box [.int .i64 s0.fSize, .sl (List.map I s0.fPlus), .sl (List.map I s0.fTimes), .sl (List.map AV.bool s0.fBelow)])]) (by kernel_rfl) trivial (by kernel_rfl) (by kernel_rfl) ?_
  refine seqQ_norm ?_
  refine Wp.seqN (by kernel_rfl) ?_
  rcases itesome h with ⟨hb_7, h⟩ | ⟨hb_7, h⟩
  · refine Wp.condT (b := (decide (w_6 < (ty1.length : Int)))) (by kernel_rfl) (by kernel_rfl) hb_7 ?_
    refine Wp.skipN (by kernel_rfl) ?_
    refine seqQ_norm ?_
    refine Wp.seqN (by kernel_rfl) ?_
    refine Wp.blockN (i := 1) (by kernel_rfl) ?_
    refine Wp.seqN (by kernel_rfl) ?_
    obtain ⟨e_5_0, hi_5_0, h⟩ := bsome h
    refine Wp.reg tiok mix hc (by kernel_rfl) (ah := none) (rs := [some (.el (.int .i64 e_5_0)), some (.no), some (.no)]) (kt := [2, 6, 12, 13, 14]) (ko := [1]) (T' := [(2, .ra 1 0), (6, .int .i64 e_5_0), (12, .sl (List.map I ty1)), (13, .int .i64 (ty1.length : Int)), (14, .int .i64 w_6)]) (O' := [(1, .box [.int .i64 s0.fSize, .sl (List.map I s0.fPlus), .sl (List.map I s0.fTimes), .sl (List.map AV.bool s0.fBelow)])]) (by kernel_rfl) (And.intro (idx_sl (enc := I) (x := .int .i64 e_5_0) hi_5_0 (eq_I e_5_0)) trivial) (by kernel_rfl) (by kernel_rfl) ?_
    refine seqQ_norm ?_
    refine Wp.seqN (by kernel_rfl) ?_
    obtain ⟨⟨r_6_1_0, r_6_1_1⟩, hr_6_1, h⟩ := bsome h
    refine Wp.reg tiok mix hc (by kernel_rfl) (ah := none) (rs := [some (.no), some (.call (.tup [.int .i64 r_6_1_0, .int .i64 r_6_1_1]) [] 1), some (.no), some (.no), some (.no), some (.no), some (.no)]) (kt := [2, 7, 8, 12, 13, 14]) (ko := [1]) (T' := [(2, .ra 1 0), (7, .int .i64 r_6_1_0), (8, .int .i64 r_6_1_1), (12, .sl (List.map I ty1)), (13, .int .i64 (ty1.length : Int)), (14, .int .i64 w_6)]) (O' := [(1, .box [.int .i64 s0.fSize, .sl (List.map I s0.fPlus), .sl (List.map I s0.fTimes), .sl (List.map AV.bool s0.fBelow)])]) (by kernel_rfl) (And.intro (impl_shape_s _ _ hr_6_1) (And.intro bod_103 (And.intro (Or.inl rfl : ([] : List Nat) = [] ∨ noSh (.tup [.int .i64 r_6_1_0, .int .i64 r_6_1_1]) = true) trivial))) (by kernel_rfl) (by kernel_rfl) ?_
    refine seqQ_norm ?_
    refine Wp.seqN (by kernel_rfl) ?_
    obtain ⟨v_8, hj_9, h⟩ := bsome h
    refine Wp.into (x := .normal) (mkS [(2, .ra 1 0), (12, .sl (List.map I ty1)), (13, .int .i64 (ty1.length : Int)), (14, .int .i64 w_6), (34, .bool v_8)] [(1, .box [.int .i64 s0.fSize, .sl (List.map I s0.fPlus), .sl (List.map I s0.fTimes), .sl (List.map AV.bool s0.fBelow)])]) ?_ ?_
    · replace h := hj_9
      rcases itesome h with ⟨hb_7_0, h⟩ | ⟨hb_7_0, h⟩
      · obtain ⟨r_7_9, hr_7_9, h⟩ := bsome h
        refine Wp.reg tiok mix hc (by kernel_rfl) (ah := none) (rs := [some (.no), some (.no), some (.no), none, none, some (.cond true), some (.no), some (.no), some (.no), some (.call (.bool r_7_9) [] 1), some (.no), some (.cond true)]) (kt := [2, 12, 13, 14, 34]) (ko := [1]) (T' := [(2, .ra 1 0), (12, .sl (List.map I ty1)), (13, .int .i64 (ty1.length : Int)), (14, .int .i64 w_6), (34, .bool (!r_7_9))]) (O' := [(1, .box [.int .i64 s0.fSize, .sl (List.map I s0.fPlus), .sl (List.map I s0.fTimes), .sl (List.map AV.bool s0.fBelow)])]) (by kernel_rfl) (And.intro (neF hb_7_0 : (r_6_1_0 == 3) ≠ false) (And.intro (neF hb_7_0 : (r_6_1_0 == 3) ≠ false) (And.intro hb_7_0 (And.intro (rfl : true = true) (And.intro (rfl : true = true) (And.intro (rfl : true = true) (And.intro (impl_Systemhas_s _ _ hr_7_9) (And.intro bod_117 (And.intro (Or.inl rfl : ([] : List Nat) = [] ∨ noSh (.bool r_7_9) = true) (And.intro (rfl : true = true) (And.intro (rfl : true = true) trivial))))))))))) (by kernel_rfl) (by kernel_rfl) ?_
        obtain rfl := Option.some.inj h
        exact Into.mk
      · rcases itesome h with ⟨hb_7_1, h⟩ | ⟨hb_7_1, h⟩
        · obtain ⟨r_7_9, hr_7_9, h⟩ := bsome h
          refine Wp.reg tiok mix hc (by kernel_rfl) (ah := none) (rs := [some (.no), some (.no), some (.no), some (.no), some (.no), some (.cond false), some (.no), some (.no), some (.no), some (.call (.bool r_7_9) [] 1), some (.no), some (.cond true)]) (kt := [2, 12, 13, 14, 34]) (ko := [1]) (T' := [(2, .ra 1 0), (12, .sl (List.map I ty1)), (13, .int .i64 (ty1.length : Int)), (14, .int .i64 w_6), (34, .bool (!r_7_9))]) (O' := [(1, .box [.int .i64 s0.fSize, .sl (List.map I s0.fPlus), .sl (List.map I s0.fTimes), .sl (List.map AV.bool s0.fBelow)])]) (by kernel_rfl) (And.intro hb_7_0 (And.intro hb_7_0 (And.intro hb_7_0 (And.intro hb_7_1 (And.intro hb_7_1 (And.intro hb_7_1 (And.intro (impl_Systemhas_s _ _ hr_7_9) (And.intro bod_117 (And.intro (Or.inl rfl : ([] : List Nat) = [] ∨ noSh (.bool r_7_9) = true) (And.intro hb_7_1 (And.intro hb_7_1 trivial))))))))))) (by kernel_rfl) (by kernel_rfl) ?_
          obtain rfl := Option.some.inj h
          exact Into.mk
        · refine Wp.reg tiok mix hc (by kernel_rfl) (ah := none) (rs := [some (.no), some (.no), some (.no), some (.no), some (.no), some (.cond false), some (.no), none, none, none, none, some (.cond false)]) (kt := [2, 12, 13, 14, 34]) (ko := [1]) (T' := [(2, .ra 1 0), (12, .sl (List.map I ty1)), (13, .int .i64 (ty1.length : Int)), (14, .int .i64 w_6), (34, .bool false)]) (O' := [(1, .box [.int .i64 s0.fSize, .sl (List.map I s0.fPlus), .sl (List.map I s0.fTimes), .sl (List.map AV.bool s0.fBelow)])]) (by kernel_rfl) (And.intro hb_7_0 (And.intro hb_7_0 (And.intro hb_7_0 (And.intro (neT hb_7_1 : (r_6_1_0 == 4) ≠ true) (And.intro (neT hb_7_1 : (r_6_1_0 == 4) ≠ true) (And.intro (neT hb_7_1 : (r_6_1_0 == 4) ≠ true) (And.intro (neT hb_7_1 : (r_6_1_0 == 4) ≠ true) (And.intro hb_7_1 trivial)))))))) (by kernel_rfl) (by kernel_rfl) ?_
          obtain rfl := Option.some.inj h
          exact Into.mk
    · clear hj_9
      refine seqQ_norm ?_
      rcases itesome h with ⟨hb_10, h⟩ | ⟨hb_10, h⟩
      · refine Wp.condT (b := v_8) (by kernel_rfl) (by kernel_rfl) hb_10 ?_
        refine Wp.seqN (by kernel_rfl) ?_
        refine Wp.reg tiok mix hc (by kernel_rfl) (ah := none) (rs := [some (.no)]) (kt := [4]) (ko := []) (T' := [(4, .bool false)]) (O' := []) (by kernel_rfl) trivial (by kernel_rfl) (by kernel_rfl) ?_
        refine seqQ_norm ?_
        refine Wp.retN (by kernel_rfl) ?_
        refine blockQ_ret ?_
        refine seqQ_ret ?_
        refine loopQ_ret ?_
        obtain rfl := Option.some.inj h
        exact RetE.ret (fl := [true]) (by kernel_rfl)
      · refine Wp.condF (b := v_8) (by kernel_rfl) (by kernel_rfl) hb_10 ?_
        refine Wp.skipN (by kernel_rfl) ?_
        refine blockQ_norm ?_
        refine seqQ_norm ?_
        refine Wp.reg tiok mix hc (by kernel_rfl) (ah := none) (rs := [some (.no), some (.no)]) (kt := [2, 12, 13, 14]) (ko := [1]) (T' := [(2, .ra 1 0), (12, .sl (List.map I ty1)), (13, .int .i64 (ty1.length : Int)), (14, .int .i64 (wr (w_6 + 1)))]) (O' := [(1, .box [.int .i64 s0.fSize, .sl (List.map I s0.fPlus), .sl (List.map I s0.fTimes), .sl (List.map AV.bool s0.fBelow)])]) (by kernel_rfl) trivial (by kernel_rfl) (by kernel_rfl) ?_
        refine loopQ_norm ?_
        exact (impl_isTypeOf_l0_ih _ _ h c hc)
  · refine Wp.condF (b := (decide (w_6 < (ty1.length : Int)))) (by kernel_rfl) (by kernel_rfl) hb_7 ?_
    refine Wp.exitN (i := 0) (by kernel_rfl) ?_
    refine seqQ_exit ?_
    refine loopQ_exit ?_
    obtain rfl := Option.some.inj h
    exact Into.view (fun a w hv => SRx.renL [] hv (by kernel_rfl) (by kernel_rfl) (by kernel_rfl))
end Go.Am
