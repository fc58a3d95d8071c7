/- Functions of the program as pure functions, and that it computes them. Printed by a program of mine (gen.py). -/
import Derived.Test.YtfakfcaegabgaaaGDTF1
set_option linter.unusedVariables false
set_option linter.unusedSimpArgs false
set_option maxRecDepth 100000
namespace Go.Am
open Go Go.Proofs
def spec_l2Grade (c0 : Int) : Option (Int) :=
    if (decide (c0 ≥ 35)) = true then
      some (-1)
    else
      if (decide (c0 ≥ 19)) = true then
        some (wr (c0 - 19))
      else
        some (wr (c0 - 3))
def M_spec_l2Grade (c0 : Int) (r : Int) : Prop :=
  FnSound Try.prog 101 [.int .i64 c0] (.int .i64 r) []
theorem spec_l2Grade_s : ∀ p r, spec_l2Grade p = some r → M_spec_l2Grade p r := by
  rintro c0 r h
  unfold spec_l2Grade at h
  show FnSound Try.prog 101 [.int .i64 c0] (.int .i64 r) []
  refine FnSound.body0 tiok (fn := Try.f101) (code := B101) (by kernel_rfl) (by kernel_rfl) (by kernel_rfl) (by kernel_rfl) (nt := 13) (by kernel_rfl) (by kernel_rfl) (T := [(0, .int .i64 c0)]) (O := []) (by kernel_rfl) (by kernel_rfl) (fun c hc => ?_)
  refine Wp.seqN (by kernel_rfl) ?_
  refine Wp.reg tiok mix hc (by kernel_rfl) (ah := none) (rs := [some (.no)]) (kt := [0]) (ko := []) (T' := [(0, .int .i64 c0)]) (O' := []) (by kernel_rfl) trivial (by kernel_rfl) (by kernel_rfl) ?_
  refine seqQ_norm ?_
  refine Wp.seqN (by kernel_rfl) ?_
  refine Wp.blockN (i := 0) (by kernel_rfl) ?_
  refine Wp.seqN (by kernel_rfl) ?_
  refine Wp.reg tiok mix hc (by kernel_rfl) (ah := none) (rs := [some (.no), some (.no), some (.no)]) (kt := [0, 3]) (ko := []) (T' := [(0, .int .i64 c0), (3, .bool (decide (c0 ≥ 35)))]) (O' := []) (by kernel_rfl) trivial (by kernel_rfl) (by kernel_rfl) ?_
  refine seqQ_norm ?_
  rcases itesome h with ⟨hb_1, h⟩ | ⟨hb_1, h⟩
  · refine Wp.condT (b := (decide (c0 ≥ 35))) (by kernel_rfl) (by kernel_rfl) hb_1 ?_
    refine Wp.seqN (by kernel_rfl) ?_
    refine Wp.reg tiok mix hc (by kernel_rfl) (ah := none) (rs := [some (.no)]) (kt := [2]) (ko := []) (T' := [(2, .int .i64 (-1))]) (O' := []) (by kernel_rfl) trivial (by kernel_rfl) (by kernel_rfl) ?_
    refine seqQ_norm ?_
    refine Wp.retN (by kernel_rfl) ?_
    refine blockQ_ret ?_
    refine seqQ_ret ?_
    obtain rfl := Option.some.inj h
    exact RetQ.ret (fl := [true]) (by kernel_rfl)
  · refine Wp.condF (b := (decide (c0 ≥ 35))) (by kernel_rfl) (by kernel_rfl) hb_1 ?_
    refine Wp.seqN (by kernel_rfl) ?_
    refine Wp.reg tiok mix hc (by kernel_rfl) (ah := none) (rs := [some (.no), some (.no), some (.no)]) (kt := [0, 6]) (ko := []) (T' := [(0, .int .i64 c0), (6, .bool (decide (c0 ≥ 19)))]) (O' := []) (by kernel_rfl) trivial (by kernel_rfl) (by kernel_rfl) ?_
    refine seqQ_norm ?_
    rcases itesome h with ⟨hb_2, h⟩ | ⟨hb_2, h⟩
    · refine Wp.condT (b := (decide (c0 ≥ 19))) (by kernel_rfl) (by kernel_rfl) hb_2 ?_
      refine Wp.seqN (by kernel_rfl) ?_
      refine Wp.reg tiok mix hc (by kernel_rfl) (ah := none) (rs := [some (.no), some (.no), some (.no)]) (kt := [2]) (ko := []) (T' := [(2, .int .i64 (wr (c0 - 19)))]) (O' := []) (by kernel_rfl) trivial (by kernel_rfl) (by kernel_rfl) ?_
      refine seqQ_norm ?_
      refine Wp.retN (by kernel_rfl) ?_
      refine blockQ_ret ?_
      refine seqQ_ret ?_
      obtain rfl := Option.some.inj h
      exact RetQ.ret (fl := [true]) (by kernel_rfl)
    · refine Wp.condF (b := (decide (c0 ≥ 19))) (by kernel_rfl) (by kernel_rfl) hb_2 ?_
      refine Wp.skipN (by kernel_rfl) ?_
      refine blockQ_norm ?_
      refine seqQ_norm ?_
      refine Wp.seqN (by kernel_rfl) ?_
      refine Wp.reg tiok mix hc (by kernel_rfl) (ah := none) (rs := [some (.no), some (.no), some (.no)]) (kt := [2]) (ko := []) (T' := [(2, .int .i64 (wr (c0 - 3)))]) (O' := []) (by kernel_rfl) trivial (by kernel_rfl) (by kernel_rfl) ?_
      refine seqQ_norm ?_
      refine Wp.retN (by kernel_rfl) ?_
      obtain rfl := Option.some.inj h
      exact RetQ.ret (fl := [true]) (by kernel_rfl)
def spec_l2Graded_F1 (c : Ctx) (ty0 : List Int) (size1 : Int) (closed2 : Bool) (i_9 : Int) : (Unit) ⊕ (Bool) → Exit → AState → Prop
  | .inl _ => Into c .normal (mkS [(0, .sl (List.map I ty0)), (1, .int .i64 size1), (2, .bool closed2), (7, .int .i64 i_9)] [])
  | .inr r => RetE TIx Try.f87 [] (.bool r)
def spec_l2Graded_F2 (c : Ctx) : (Unit) ⊕ (Bool) → Exit → AState → Prop
  | .inl _ => Into c (.exit 0) (mkS [] [])
  | .inr r => RetE TIx Try.f87 [] (.bool r)
def spec_l2Graded_l0 (p : (List Int) × Int × Bool × Int) : Option ((Unit) ⊕ (Bool)) :=
  match p with
  | (ty0, size1, closed2, i_9) =>
    if (decide (i_9 < (ty0.length : Int))) = true then
      (
        (idx ty0 i_9) >>= fun e_4_2 =>
        (spec_l2Kids e_4_2) >>= fun r_4_4 =>
        if (decide (r_4_4 > 0)) = true then
          (idx ty0 i_9) >>= fun e_4_9 =>
          some ((decide (e_4_9 > 2)))
        else
          some (false)
      ) >>= fun v_11 =>
      ((
        if v_11 = true then
          (idx ty0 i_9) >>= fun e_5_2 =>
          (spec_l2Grade e_5_2) >>= fun r_5_4 =>
          (
            if (decide (r_5_4 ≥ size1)) = true then
              some (true)
            else
              if closed2 = true then
                some ((decide (r_5_4 < 0)))
              else
                some (false)
          ) >>= fun v_14 =>
          if v_14 = true then
            some (.inr false)
          else
            some (.inl ())
        else
          some (.inl ())) : Option ((Unit) ⊕ (Bool))) >>= fun fl => match fl with
      | .inl () =>
        spec_l2Graded_l0 (ty0, size1, closed2, (wr (i_9 + 1)))
      | .inr r =>
        some (.inr r)
    else
      some (.inl ())
  partial_fixpoint
def M_spec_l2Graded_l0 (p : (List Int) × Int × Bool × Int) (fl : (Unit) ⊕ (Bool)) : Prop :=
  match p with
  | (ty0, size1, closed2, i_9) => ∀ c : Ctx, c.nt = 43 → WpL Try.prog c (cl (cl (cr (cl (cr B87))))) (spec_l2Graded_F2 c fl) (mkS [(0, .sl (List.map I ty0)), (1, .int .i64 size1), (2, .bool closed2), (7, .int .i64 i_9)] [])
theorem spec_l2Graded_l0_s : ∀ p r, spec_l2Graded_l0 p = some r → M_spec_l2Graded_l0 p r := by
  refine spec_l2Graded_l0.partial_correctness M_spec_l2Graded_l0 ?_
  rintro spec_l2Graded_l0_f spec_l2Graded_l0_ih ⟨ty0, size1, closed2, i_9⟩ r h
  intro c hc
  show WpL Try.prog c (cl (cl (cr (cl (cr B87))))) (spec_l2Graded_F2 c r) (mkS [(0, .sl (List.map I ty0)), (1, .int .i64 size1), (2, .bool closed2), (7, .int .i64 i_9)] [])
  refine WpL.step ?_
  refine Wp.seqN (by kernel_rfl) ?_
  refine Wp.seqN (by kernel_rfl) ?_
  refine Wp.reg tiok mix hc (by kernel_rfl) (ah := none) (rs := [some (.no), some (.no), some (.eqv (.no) ⟨[(11, .int .i64 (ty0.length : Int))], [], []⟩), some (.no)]) (kt := [0, 1, 2, 7, 12]) (ko := []) (T' := [(0, .sl (List.map I ty0)), (1, .int .i64 size1), (2, .bool closed2), (7, .int .i64 i_9), (12, .bool (decide (i_9 < (ty0.length : Int))))]) (O' := []) (by kernel_rfl) (And.intro (lenT (d := 11) I ty0) trivial) (by kernel_rfl) (by kernel_rfl) ?_
  refine seqQ_norm ?_
  rcases itesome h with ⟨hb_10, h⟩ | ⟨hb_10, h⟩
  · refine Wp.condT (b := (decide (i_9 < (ty0.length : Int)))) (by kernel_rfl) (by kernel_rfl) hb_10 ?_
    refine Wp.skipN (by kernel_rfl) ?_
    refine seqQ_norm ?_
    refine Wp.seqN (by kernel_rfl) ?_
    refine Wp.blockN (i := 1) (by kernel_rfl) ?_
    refine Wp.seqN (by kernel_rfl) ?_
    obtain ⟨v_11, hj_12, h⟩ := bsome h
    refine Wp.into (x := .normal) (mkS [(0, .sl (List.map I ty0)), (1, .int .i64 size1), (2, .bool closed2), (7, .int .i64 i_9), (27, .bool v_11)] []) ?_ ?_
    · replace h := hj_12
      obtain ⟨e_4_2, hi_4_2, h⟩ := bsome h
      obtain ⟨r_4_4, hr_4_4, h⟩ := bsome h
      rcases itesome h with ⟨hb_4_0, h⟩ | ⟨hb_4_0, h⟩
      · obtain ⟨e_4_9, hi_4_9, h⟩ := bsome h
        refine Wp.reg tiok mix hc (by kernel_rfl) (ah := none) (rs := [some (.no), some (.no), some (.el (.int .i64 e_4_2)), some (.no), some (.call (.int .i64 r_4_4) [] 1), some (.no), some (.no), some (.no), some (.no), some (.el (.int .i64 e_4_9)), some (.no), some (.no), some (.cond true)]) (kt := [0, 1, 2, 7, 27]) (ko := []) (T' := [(0, .sl (List.map I ty0)), (1, .int .i64 size1), (2, .bool closed2), (7, .int .i64 i_9), (27, .bool (decide (e_4_9 > 2)))]) (O' := []) (by kernel_rfl) (And.intro (idx_sl (enc := I) (x := .int .i64 e_4_2) hi_4_2 (eq_I e_4_2)) (And.intro (spec_l2Kids_s _ _ hr_4_4) (And.intro bod_136 (And.intro (Or.inl rfl : ([] : List Nat) = [] ∨ noSh (.int .i64 r_4_4) = true) (And.intro hb_4_0 (And.intro hb_4_0 (And.intro hb_4_0 (And.intro (idx_sl (enc := I) (x := .int .i64 e_4_9) hi_4_9 (eq_I e_4_9)) (And.intro hb_4_0 (And.intro hb_4_0 (And.intro hb_4_0 trivial))))))))))) (by kernel_rfl) (by kernel_rfl) ?_
        obtain rfl := Option.some.inj h
        exact Into.mk
      · refine Wp.reg tiok mix hc (by kernel_rfl) (ah := none) (rs := [some (.no), some (.no), some (.el (.int .i64 e_4_2)), some (.no), some (.call (.int .i64 r_4_4) [] 1), some (.no), some (.no), none, none, none, none, none, some (.cond false)]) (kt := [0, 1, 2, 7, 27]) (ko := []) (T' := [(0, .sl (List.map I ty0)), (1, .int .i64 size1), (2, .bool closed2), (7, .int .i64 i_9), (27, .bool false)]) (O' := []) (by kernel_rfl) (And.intro (idx_sl (enc := I) (x := .int .i64 e_4_2) hi_4_2 (eq_I e_4_2)) (And.intro (spec_l2Kids_s _ _ hr_4_4) (And.intro bod_136 (And.intro (Or.inl rfl : ([] : List Nat) = [] ∨ noSh (.int .i64 r_4_4) = true) (And.intro (neT hb_4_0 : (decide (r_4_4 > 0)) ≠ true) (And.intro (neT hb_4_0 : (decide (r_4_4 > 0)) ≠ true) (And.intro (neT hb_4_0 : (decide (r_4_4 > 0)) ≠ true) (And.intro (neT hb_4_0 : (decide (r_4_4 > 0)) ≠ true) (And.intro (neT hb_4_0 : (decide (r_4_4 > 0)) ≠ true) (And.intro hb_4_0 trivial)))))))))) (by kernel_rfl) (by kernel_rfl) ?_
        obtain rfl := Option.some.inj h
        exact Into.mk
    · clear hj_12
      refine seqQ_norm ?_
      obtain ⟨fl, hj_17, h⟩ := bsome h
      have hF : Wp Try.prog c (cr (cl (cl (cr (cl (cl (cr (cl (cr B87))))))))) (spec_l2Graded_F1 c ty0 size1 closed2 i_9 fl) (mkS [(0, .sl (List.map I ty0)), (1, .int .i64 size1), (2, .bool closed2), (7, .int .i64 i_9), (27, .bool v_11)] []) := by
        replace h := hj_17
        rcases itesome h with ⟨hb_13, h⟩ | ⟨hb_13, h⟩
        · refine Wp.condT (b := v_11) (by kernel_rfl) (by kernel_rfl) hb_13 ?_
          refine Wp.seqN (by kernel_rfl) ?_
          obtain ⟨e_5_2, hi_5_2, h⟩ := bsome h
          obtain ⟨r_5_4, hr_5_4, h⟩ := bsome h
          refine Wp.reg tiok mix hc (by kernel_rfl) (ah := none) (rs := [some (.no), some (.no), some (.el (.int .i64 e_5_2)), some (.no), some (.call (.int .i64 r_5_4) [] 1), some (.no)]) (kt := [0, 1, 2, 7, 8]) (ko := []) (T' := [(0, .sl (List.map I ty0)), (1, .int .i64 size1), (2, .bool closed2), (7, .int .i64 i_9), (8, .int .i64 r_5_4)]) (O' := []) (by kernel_rfl) (And.intro (idx_sl (enc := I) (x := .int .i64 e_5_2) hi_5_2 (eq_I e_5_2)) (And.intro (spec_l2Grade_s _ _ hr_5_4) (And.intro bod_101 (And.intro (Or.inl rfl : ([] : List Nat) = [] ∨ noSh (.int .i64 r_5_4) = true) trivial)))) (by kernel_rfl) (by kernel_rfl) ?_
          refine seqQ_norm ?_
          refine Wp.seqN (by kernel_rfl) ?_
          obtain ⟨v_14, hj_15, h⟩ := bsome h
          refine Wp.into (x := .normal) (mkS [(0, .sl (List.map I ty0)), (1, .int .i64 size1), (2, .bool closed2), (7, .int .i64 i_9), (42, .bool v_14)] []) ?_ ?_
          · replace h := hj_15
            rcases itesome h with ⟨hb_6_0, h⟩ | ⟨hb_6_0, h⟩
            · refine Wp.reg tiok mix hc (by kernel_rfl) (ah := none) (rs := [some (.no), some (.no), some (.no), some (.no), none, none, none, none, none, some (.cond true)]) (kt := [0, 1, 2, 7, 42]) (ko := []) (T' := [(0, .sl (List.map I ty0)), (1, .int .i64 size1), (2, .bool closed2), (7, .int .i64 i_9), (42, .bool true)]) (O' := []) (by kernel_rfl) (And.intro (neF hb_6_0 : (decide (r_5_4 ≥ size1)) ≠ false) (And.intro (neF hb_6_0 : (decide (r_5_4 ≥ size1)) ≠ false) (And.intro (neF hb_6_0 : (decide (r_5_4 ≥ size1)) ≠ false) (And.intro hb_6_0 trivial)))) (by kernel_rfl) (by kernel_rfl) ?_
              obtain rfl := Option.some.inj h
              exact Into.mk
            · rcases itesome h with ⟨hb_6_1, h⟩ | ⟨hb_6_1, h⟩
              · refine Wp.reg tiok mix hc (by kernel_rfl) (ah := none) (rs := [some (.no), some (.no), some (.no), some (.no), some (.no), some (.no), some (.no), some (.no), some (.cond true), some (.cond false)]) (kt := [0, 1, 2, 7, 42]) (ko := []) (T' := [(0, .sl (List.map I ty0)), (1, .int .i64 size1), (2, .bool closed2), (7, .int .i64 i_9), (42, .bool (decide (r_5_4 < 0)))]) (O' := []) (by kernel_rfl) (And.intro hb_6_0 (And.intro hb_6_0 (And.intro hb_6_1 (And.intro hb_6_1 (And.intro hb_6_0 (And.intro hb_6_1 (And.intro hb_6_0 trivial))))))) (by kernel_rfl) (by kernel_rfl) ?_
                obtain rfl := Option.some.inj h
                exact Into.mk
              · refine Wp.reg tiok mix hc (by kernel_rfl) (ah := none) (rs := [some (.no), some (.no), some (.no), some (.no), some (.no), some (.no), none, none, some (.cond false), some (.cond false)]) (kt := [0, 1, 2, 7, 42]) (ko := []) (T' := [(0, .sl (List.map I ty0)), (1, .int .i64 size1), (2, .bool closed2), (7, .int .i64 i_9), (42, .bool false)]) (O' := []) (by kernel_rfl) (And.intro hb_6_0 (And.intro hb_6_0 (And.intro (neT hb_6_1 : closed2 ≠ true) (And.intro (neT hb_6_1 : closed2 ≠ true) (And.intro hb_6_0 (And.intro hb_6_1 (And.intro hb_6_0 trivial))))))) (by kernel_rfl) (by kernel_rfl) ?_
                obtain rfl := Option.some.inj h
                exact Into.mk
          · clear hj_15
            refine seqQ_norm ?_
            rcases itesome h with ⟨hb_16, h⟩ | ⟨hb_16, h⟩
            · refine Wp.condT (b := v_14) (by kernel_rfl) (by kernel_rfl) hb_16 ?_
              refine Wp.seqN (by kernel_rfl) ?_
              refine Wp.reg tiok mix hc (by kernel_rfl) (ah := none) (rs := [some (.no)]) (kt := [6]) (ko := []) (T' := [(6, .bool false)]) (O' := []) (by kernel_rfl) trivial (by kernel_rfl) (by kernel_rfl) ?_
              refine seqQ_norm ?_
              refine Wp.retN (by kernel_rfl) ?_
              obtain rfl := Option.some.inj h
              exact RetE.ret (fl := [true]) (by kernel_rfl)
            · refine Wp.condF (b := v_14) (by kernel_rfl) (by kernel_rfl) hb_16 ?_
              refine Wp.skipN (by kernel_rfl) ?_
              obtain rfl := Option.some.inj h
              exact Into.view (fun a w hv => SRx.renL [] hv (by kernel_rfl) (by kernel_rfl) (by kernel_rfl))
        · refine Wp.condF (b := v_11) (by kernel_rfl) (by kernel_rfl) hb_13 ?_
          refine Wp.skipN (by kernel_rfl) ?_
          obtain rfl := Option.some.inj h
          exact Into.view (fun a w hv => SRx.renL [] hv (by kernel_rfl) (by kernel_rfl) (by kernel_rfl))
      rcases fl with ⟨⟩ | r
      · refine Wp.into (x := .normal) (mkS [(0, .sl (List.map I ty0)), (1, .int .i64 size1), (2, .bool closed2), (7, .int .i64 i_9)] []) hF ?_
        refine blockQ_norm ?_
        refine seqQ_norm ?_
        refine Wp.reg tiok mix hc (by kernel_rfl) (ah := none) (rs := [some (.no), some (.no), some (.no)]) (kt := [0, 1, 2, 7]) (ko := []) (T' := [(0, .sl (List.map I ty0)), (1, .int .i64 size1), (2, .bool closed2), (7, .int .i64 (wr (i_9 + 1)))]) (O' := []) (by kernel_rfl) trivial (by kernel_rfl) (by kernel_rfl) ?_
        refine loopQ_norm ?_
        exact (spec_l2Graded_l0_ih _ _ h c hc)
      · refine Wp.mono hF ?_
        rintro _ _ ⟨rfl, hfin⟩
        refine blockQ_ret ?_
        refine seqQ_ret ?_
        refine loopQ_ret ?_
        obtain rfl := Option.some.inj h
        exact ⟨rfl, hfin⟩
  · refine Wp.condF (b := (decide (i_9 < (ty0.length : Int)))) (by kernel_rfl) (by kernel_rfl) hb_10 ?_
    refine Wp.exitN (i := 0) (by kernel_rfl) ?_
    refine seqQ_exit ?_
    refine loopQ_exit ?_
    obtain rfl := Option.some.inj h
    exact Into.view (fun a w hv => SRx.renL [] hv (by kernel_rfl) (by kernel_rfl) (by kernel_rfl))
def spec_l2Graded (p : (List Int) × Int × Bool) : Option (Bool) :=
  match p with
  | (ty0, size1, closed2) =>
    (spec_l2Graded_l0 (ty0, size1, closed2, 0)) >>= fun fl => match fl with
    | .inl () =>
      some true
    | .inr r =>
      some r
def M_spec_l2Graded (p : (List Int) × Int × Bool) (r : Bool) : Prop :=
  match p with
  | (ty0, size1, closed2) => FnSound Try.prog 87 [.sl (List.map I ty0), .int .i64 size1, .bool closed2] (.bool r) []
theorem spec_l2Graded_s : ∀ p r, spec_l2Graded p = some r → M_spec_l2Graded p r := by
  rintro ⟨ty0, size1, closed2⟩ r h
  unfold spec_l2Graded at h
  show FnSound Try.prog 87 [.sl (List.map I ty0), .int .i64 size1, .bool closed2] (.bool r) []
  refine FnSound.body0 tiok (fn := Try.f87) (code := B87) (by kernel_rfl) (by kernel_rfl) (by kernel_rfl) (by kernel_rfl) (nt := 43) (by kernel_rfl) (by kernel_rfl) (T := [(0, .sl (List.map I ty0)), (1, .int .i64 size1), (2, .bool closed2)]) (O := []) (by kernel_rfl) (by kernel_rfl) (fun c hc => ?_)
  refine Wp.seqN (by kernel_rfl) ?_
  refine Wp.reg tiok mix hc (by kernel_rfl) (ah := none) (rs := [some (.no)]) (kt := [0, 1, 2]) (ko := []) (T' := [(0, .sl (List.map I ty0)), (1, .int .i64 size1), (2, .bool closed2)]) (O' := []) (by kernel_rfl) trivial (by kernel_rfl) (by kernel_rfl) ?_
  refine seqQ_norm ?_
  refine Wp.seqN (by kernel_rfl) ?_
  refine Wp.seqN (by kernel_rfl) ?_
  refine Wp.reg tiok mix hc (by kernel_rfl) (ah := none) (rs := [some (.no)]) (kt := [0, 1, 2, 7]) (ko := []) (T' := [(0, .sl (List.map I ty0)), (1, .int .i64 size1), (2, .bool closed2), (7, .int .i64 0)]) (O' := []) (by kernel_rfl) trivial (by kernel_rfl) (by kernel_rfl) ?_
  refine seqQ_norm ?_
  refine Wp.blockN (i := 0) (by kernel_rfl) ?_
  obtain ⟨fl, hl_18, h⟩ := bsome h
  have hL := spec_l2Graded_l0_s _ _ hl_18 c hc
  refine Wp.loopN (by kernel_rfl) ?_
  rcases fl with ⟨⟩ | r
  · refine WpL.into (e := (.exit 0)) (mkS [] []) hL ?_
    refine blockQ_hit ?_
    refine seqQ_norm ?_
    refine Wp.seqN (by kernel_rfl) ?_
    refine Wp.reg tiok mix hc (by kernel_rfl) (ah := none) (rs := [some (.no)]) (kt := [6]) (ko := []) (T' := [(6, .bool true)]) (O' := []) (by kernel_rfl) trivial (by kernel_rfl) (by kernel_rfl) ?_
    refine seqQ_norm ?_
    refine Wp.retN (by kernel_rfl) ?_
    obtain rfl := Option.some.inj h
    exact RetQ.ret (fl := [true]) (by kernel_rfl)
  · refine WpL.mono hL ?_
    rintro _ _ ⟨rfl, hfin⟩
    refine blockQ_ret ?_
    refine seqQ_ret ?_
    obtain rfl := Option.some.inj h
    exact ⟨.inl rfl, hfin⟩
def spec_IsType (p : GSystem × (List Int)) : Option (Bool) :=
  match p with
  | (s0, ty1) =>
    (
      (spec_IsSystem s0) >>= fun r_1_1 =>
      if r_1_1 = true then
        (spec_l2Type ty1) >>= fun r_1_4 =>
        if r_1_4 = true then
          (spec_l2Graded (ty1, s0.fSize, true)) >>= fun r_1_10 =>
          some (r_1_10)
        else
          some (false)
      else
        some (false)
    ) >>= fun v_1 =>
    some v_1
def M_spec_IsType (p : GSystem × (List Int)) (r : Bool) : Prop :=
  match p with
  | (s0, ty1) => FnSound Try.prog 44 [.agg [.int .i64 s0.fSize, .sl (List.map I s0.fPlus), .sl (List.map I s0.fTimes), .sl (List.map AV.bool s0.fBelow)], .sl (List.map I ty1)] (.bool r) []
theorem spec_IsType_s : ∀ p r, spec_IsType p = some r → M_spec_IsType p r := by
  rintro ⟨s0, ty1⟩ r h
  unfold spec_IsType at h
  show FnSound Try.prog 44 [.agg [.int .i64 s0.fSize, .sl (List.map I s0.fPlus), .sl (List.map I s0.fTimes), .sl (List.map AV.bool s0.fBelow)], .sl (List.map I ty1)] (.bool r) []
  refine FnSound.body0 tiok (fn := Try.f44) (code := B44) (by kernel_rfl) (by kernel_rfl) (by kernel_rfl) (by kernel_rfl) (nt := 17) (by kernel_rfl) (by kernel_rfl) (T := [(0, .agg [.int .i64 s0.fSize, .sl (List.map I s0.fPlus), .sl (List.map I s0.fTimes), .sl (List.map AV.bool s0.fBelow)]), (1, .sl (List.map I ty1))]) (O := []) (by kernel_rfl) (by kernel_rfl) (fun c hc => ?_)
  refine Wp.seqN (by kernel_rfl) ?_
  refine Wp.reg tiok mix hc (by kernel_rfl) (ah := none) (rs := [some (.new 1), some (.no)]) (kt := [1, 2]) (ko := [1]) (T' := [(1, .sl (List.map I ty1)), (2, .ra 1 0)]) (O' := [(1, .box [.int .i64 s0.fSize, .sl (List.map I s0.fPlus), .sl (List.map I s0.fTimes), .sl (List.map AV.bool s0.fBelow)])]) (by kernel_rfl) trivial (by kernel_rfl) (by kernel_rfl) ?_
  refine seqQ_norm ?_
  refine Wp.seqN (by kernel_rfl) ?_
  obtain ⟨v_1, hj_2, h⟩ := bsome h
  refine Wp.into (x := .normal) (mkS [(4, .bool v_1)] []) ?_ ?_
  · replace h := hj_2
    obtain ⟨r_1_1, hr_1_1, h⟩ := bsome h
    rcases itesome h with ⟨hb_1_0, h⟩ | ⟨hb_1_0, h⟩
    · obtain ⟨r_1_4, hr_1_4, h⟩ := bsome h
      rcases itesome h with ⟨hb_1_1, h⟩ | ⟨hb_1_1, h⟩
      · obtain ⟨r_1_10, hr_1_10, h⟩ := bsome h
        refine Wp.reg tiok mix hc (by kernel_rfl) (ah := none) (rs := [some (.no), some (.call (.bool r_1_1) [] 1), some (.no), some (.no), some (.call (.bool r_1_4) [] 1), some (.cond true), some (.no), some (.no), some (.no), some (.no), some (.call (.bool r_1_10) [] 1), some (.cond true), some (.no)]) (kt := [4]) (ko := []) (T' := [(4, .bool r_1_10)]) (O' := []) (by kernel_rfl) (And.intro (spec_IsSystem_s _ _ hr_1_1) (And.intro bod_98 (And.intro (Or.inl rfl : ([] : List Nat) = [] ∨ noSh (.bool r_1_1) = true) (And.intro hb_1_0 (And.intro hb_1_0 (And.intro (spec_l2Type_s _ _ hr_1_4) (And.intro bod_86 (And.intro (Or.inl rfl : ([] : List Nat) = [] ∨ noSh (.bool r_1_4) = true) (And.intro hb_1_0 (And.intro hb_1_1 (And.intro hb_1_1 (And.intro hb_1_1 (And.intro hb_1_1 (And.intro (spec_l2Graded_s _ _ hr_1_10) (And.intro bod_87 (And.intro (Or.inl rfl : ([] : List Nat) = [] ∨ noSh (.bool r_1_10) = true) (And.intro hb_1_1 trivial))))))))))))))))) (by kernel_rfl) (by kernel_rfl) ?_
        obtain rfl := Option.some.inj h
        exact Into.mk
      · refine Wp.reg tiok mix hc (by kernel_rfl) (ah := none) (rs := [some (.no), some (.call (.bool r_1_1) [] 1), some (.no), some (.no), some (.call (.bool r_1_4) [] 1), some (.cond true), some (.no), none, none, none, none, some (.cond false), some (.no)]) (kt := [4]) (ko := []) (T' := [(4, .bool false)]) (O' := []) (by kernel_rfl) (And.intro (spec_IsSystem_s _ _ hr_1_1) (And.intro bod_98 (And.intro (Or.inl rfl : ([] : List Nat) = [] ∨ noSh (.bool r_1_1) = true) (And.intro hb_1_0 (And.intro hb_1_0 (And.intro (spec_l2Type_s _ _ hr_1_4) (And.intro bod_86 (And.intro (Or.inl rfl : ([] : List Nat) = [] ∨ noSh (.bool r_1_4) = true) (And.intro hb_1_0 (And.intro (neT hb_1_1 : r_1_4 ≠ true) (And.intro (neT hb_1_1 : r_1_4 ≠ true) (And.intro (neT hb_1_1 : r_1_4 ≠ true) (And.intro (neT hb_1_1 : r_1_4 ≠ true) (And.intro hb_1_1 trivial)))))))))))))) (by kernel_rfl) (by kernel_rfl) ?_
        obtain rfl := Option.some.inj h
        exact Into.mk
    · refine Wp.reg tiok mix hc (by kernel_rfl) (ah := none) (rs := [some (.no), some (.call (.bool r_1_1) [] 1), some (.no), none, none, some (.cond false), some (.no), none, none, none, none, some (.cond false), some (.no)]) (kt := [4]) (ko := []) (T' := [(4, .bool false)]) (O' := []) (by kernel_rfl) (And.intro (spec_IsSystem_s _ _ hr_1_1) (And.intro bod_98 (And.intro (Or.inl rfl : ([] : List Nat) = [] ∨ noSh (.bool r_1_1) = true) (And.intro (neT hb_1_0 : r_1_1 ≠ true) (And.intro (neT hb_1_0 : r_1_1 ≠ true) (And.intro hb_1_0 (And.intro (neT (rfl : false = false) : false ≠ true) (And.intro (neT (rfl : false = false) : false ≠ true) (And.intro (neT (rfl : false = false) : false ≠ true) (And.intro (neT (rfl : false = false) : false ≠ true) (And.intro (rfl : false = false) trivial))))))))))) (by kernel_rfl) (by kernel_rfl) ?_
      obtain rfl := Option.some.inj h
      exact Into.mk
  · clear hj_2
    refine seqQ_norm ?_
    refine Wp.retN (by kernel_rfl) ?_
    obtain rfl := Option.some.inj h
    exact RetQ.ret (fl := [true]) (by kernel_rfl)
def spec_l1Copy (l0 : (List Int)) : Option ((List Int)) :=
    (fits (([] : List Int).length + l0.length) 8) >>= fun _ =>
    some l0
def M_spec_l1Copy (l0 : (List Int)) (r : (List Int)) : Prop :=
  FnSound Try.prog 149 [.sl (List.map I l0)] (.osl (List.map I r)) []
theorem spec_l1Copy_s : ∀ p r, spec_l1Copy p = some r → M_spec_l1Copy p r := by
  rintro l0 r h
  unfold spec_l1Copy at h
  show FnSound Try.prog 149 [.sl (List.map I l0)] (.osl (List.map I r)) []
  refine FnSound.body0 tiok (fn := Try.f149) (code := B149) (by kernel_rfl) (by kernel_rfl) (by kernel_rfl) (by kernel_rfl) (nt := 6) (by kernel_rfl) (by kernel_rfl) (T := [(0, .sl (List.map I l0))]) (O := []) (by kernel_rfl) (by kernel_rfl) (fun c hc => ?_)
  refine Wp.seqN (by kernel_rfl) ?_
  refine Wp.reg tiok mix hc (by kernel_rfl) (ah := none) (rs := [some (.no)]) (kt := [0]) (ko := []) (T' := [(0, .sl (List.map I l0))]) (O' := []) (by kernel_rfl) trivial (by kernel_rfl) (by kernel_rfl) ?_
  refine seqQ_norm ?_
  refine Wp.seqN (by kernel_rfl) ?_
  obtain ⟨_, hk_1_2, h⟩ := bsome h
  refine Wp.reg tiok mix hc (by kernel_rfl) (ah := none) (rs := [some (.mk 1 true), some (.no), some (.eqv (.mk 2 true) ⟨[(5, .rs 2)], [(2, some (.arr (List.map I l0))), (1, none)], [2]⟩), some (.no)]) (kt := [2]) (ko := [2]) (T' := [(2, .rs 2)]) (O' := [(2, .arr (List.map I l0))]) (by kernel_rfl) (And.intro (congrArg (fun z => (⟨[(5, .rs 2)], [(2, some (.arr z)), (1, none)], [2]⟩ : Wr)) (List.nil_append _ : [] ++ (List.map I l0) = List.map I l0)) (And.intro (app_ob (enc1 := I) (enc2 := I) (e1 := []) (e2 := l0) (sz := 1) ek_I ek_I hk_1_2) trivial)) (by kernel_rfl) (by kernel_rfl) ?_
  refine seqQ_norm ?_
  refine Wp.retN (by kernel_rfl) ?_
  obtain rfl := Option.some.inj h
  exact RetQ.ret (fl := [true]) (by kernel_rfl)
def spec_l2Part (p : (List Int) × Int) : Option ((List Int)) :=
  match p with
  | (ty0, k1) =>
    (spec_l2End (ty0, 1)) >>= fun r_1_1 =>
    if (k1 == 0) = true then
      (cut ty0 (some 1) (some r_1_1) none) >>= fun c_3_2 =>
      (spec_l1Copy c_3_2) >>= fun r_3_3 =>
      some r_3_3
    else
      (cut ty0 (some r_1_1) none none) >>= fun c_4_2 =>
      (spec_l1Copy c_4_2) >>= fun r_4_3 =>
      some r_4_3
def M_spec_l2Part (p : (List Int) × Int) (r : (List Int)) : Prop :=
  match p with
  | (ty0, k1) => FnSound Try.prog 99 [.sl (List.map I ty0), .int .i64 k1] (.osl (List.map I r)) []
theorem spec_l2Part_s : ∀ p r, spec_l2Part p = some r → M_spec_l2Part p r := by
  rintro ⟨ty0, k1⟩ r h
  unfold spec_l2Part at h
  show FnSound Try.prog 99 [.sl (List.map I ty0), .int .i64 k1] (.osl (List.map I r)) []
  refine FnSound.body0 tiok (fn := Try.f99) (code := B99) (by kernel_rfl) (by kernel_rfl) (by kernel_rfl) (by kernel_rfl) (nt := 18) (by kernel_rfl) (by kernel_rfl) (T := [(0, .sl (List.map I ty0)), (1, .int .i64 k1)]) (O := []) (by kernel_rfl) (by kernel_rfl) (fun c hc => ?_)
  refine Wp.seqN (by kernel_rfl) ?_
  refine Wp.reg tiok mix hc (by kernel_rfl) (ah := none) (rs := [some (.no)]) (kt := [0, 1]) (ko := []) (T' := [(0, .sl (List.map I ty0)), (1, .int .i64 k1)]) (O' := []) (by kernel_rfl) trivial (by kernel_rfl) (by kernel_rfl) ?_
  refine seqQ_norm ?_
  refine Wp.seqN (by kernel_rfl) ?_
  obtain ⟨r_1_1, hr_1_1, h⟩ := bsome h
  refine Wp.reg tiok mix hc (by kernel_rfl) (ah := none) (rs := [some (.no), some (.call (.int .i64 r_1_1) [] 1), some (.no)]) (kt := [0, 1, 5]) (ko := []) (T' := [(0, .sl (List.map I ty0)), (1, .int .i64 k1), (5, .int .i64 r_1_1)]) (O' := []) (by kernel_rfl) (And.intro (spec_l2End_s _ _ hr_1_1) (And.intro bod_135 (And.intro (Or.inl rfl : ([] : List Nat) = [] ∨ noSh (.int .i64 r_1_1) = true) trivial))) (by kernel_rfl) (by kernel_rfl) ?_
  refine seqQ_norm ?_
  refine Wp.seqN (by kernel_rfl) ?_
  refine Wp.seqN (by kernel_rfl) ?_
  refine Wp.reg tiok mix hc (by kernel_rfl) (ah := none) (rs := [some (.no), some (.no)]) (kt := [0, 5, 9]) (ko := []) (T' := [(0, .sl (List.map I ty0)), (5, .int .i64 r_1_1), (9, .bool (k1 == 0))]) (O' := []) (by kernel_rfl) trivial (by kernel_rfl) (by kernel_rfl) ?_
  refine seqQ_norm ?_
  rcases itesome h with ⟨hb_1, h⟩ | ⟨hb_1, h⟩
  · refine Wp.condT (b := (k1 == 0)) (by kernel_rfl) (by kernel_rfl) hb_1 ?_
    refine Wp.seqN (by kernel_rfl) ?_
    obtain ⟨c_3_2, hs_3_2, h⟩ := bsome h
    obtain ⟨r_3_3, hr_3_3, h⟩ := bsome h
    refine Wp.reg tiok mix hc (by kernel_rfl) (ah := none) (rs := [some (.no), some (.no), some (.eqv (.no) ⟨[(12, .sl (List.map I c_3_2))], [], []⟩), some (.call (.osl (List.map I r_3_3)) [] 1), some (.no)]) (kt := [4]) (ko := [1]) (T' := [(4, .rs 1)]) (O' := [(1, .arr (List.map I r_3_3))]) (by kernel_rfl) (And.intro (cut_wr (d := 12) I hs_3_2) (And.intro (cut_ob (enc := I) (sz := 1) sz_I hs_3_2) (And.intro (spec_l1Copy_s _ _ hr_3_3) (And.intro bod_149 (And.intro (Or.inl rfl : ([] : List Nat) = [] ∨ noSh (.osl (List.map I r_3_3)) = true) trivial))))) (by kernel_rfl) (by kernel_rfl) ?_
    refine seqQ_norm ?_
    refine Wp.retN (by kernel_rfl) ?_
    refine seqQ_ret ?_
    obtain rfl := Option.some.inj h
    exact RetQ.ret (fl := [true]) (by kernel_rfl)
  · refine Wp.condF (b := (k1 == 0)) (by kernel_rfl) (by kernel_rfl) hb_1 ?_
    refine Wp.skipN (by kernel_rfl) ?_
    refine seqQ_norm ?_
    refine Wp.seqN (by kernel_rfl) ?_
    obtain ⟨c_4_2, hs_4_2, h⟩ := bsome h
    obtain ⟨r_4_3, hr_4_3, h⟩ := bsome h
    refine Wp.reg tiok mix hc (by kernel_rfl) (ah := none) (rs := [some (.no), some (.no), some (.eqv (.no) ⟨[(16, .sl (List.map I c_4_2))], [], []⟩), some (.call (.osl (List.map I r_4_3)) [] 2), some (.no)]) (kt := [4]) (ko := [2]) (T' := [(4, .rs 2)]) (O' := [(2, .arr (List.map I r_4_3))]) (by kernel_rfl) (And.intro (cut_wr (d := 16) I hs_4_2) (And.intro (cut_ob (enc := I) (sz := 1) sz_I hs_4_2) (And.intro (spec_l1Copy_s _ _ hr_4_3) (And.intro bod_149 (And.intro (Or.inl rfl : ([] : List Nat) = [] ∨ noSh (.osl (List.map I r_4_3)) = true) trivial))))) (by kernel_rfl) (by kernel_rfl) ?_
    refine seqQ_norm ?_
    refine Wp.retN (by kernel_rfl) ?_
    obtain rfl := Option.some.inj h
    exact RetQ.ret (fl := [true]) (by kernel_rfl)
def spec_l5Default (ty0 : (List Int)) : Option (GTerm) :=
    (idx ty0 0) >>= fun e_1_1 =>
    if (e_1_1 == 0) = true then
      some (GTerm.mk 1 0 [] [])
    else
      (spec_l2Part (ty0, 0)) >>= fun r_4_1 =>
      (spec_l2Box e_1_1) >>= fun r_5_1 =>
      if r_5_1 = true then
        (spec_l2Grade e_1_1) >>= fun r_6_1 =>
        (spec_l5Default r_4_1) >>= fun r_6_3 =>
        some (GTerm.mk 11 r_6_1 [] [r_6_3])
      else
        if (e_1_1 == 1) = true then
          (spec_l5Default r_4_1) >>= fun r_8_1 =>
          (spec_l2Part (ty0, 1)) >>= fun r_8_3 =>
          (spec_l5Default r_8_3) >>= fun r_8_4 =>
          some (GTerm.mk 4 0 [] [r_8_1, r_8_4])
        else
          if (e_1_1 == 2) = true then
            (spec_l2Part (ty0, 1)) >>= fun r_10_1 =>
            (spec_l5Default r_4_1) >>= fun r_10_3 =>
            some (GTerm.mk 6 0 r_10_1 [r_10_3])
          else
            (spec_l2Grade e_1_1) >>= fun r_11_1 =>
            (spec_l2Part (ty0, 1)) >>= fun r_11_4 =>
            (spec_l5Default r_11_4) >>= fun r_11_5 =>
            some (GTerm.mk 9 r_11_1 r_4_1 [r_11_5])
  partial_fixpoint
def M_spec_l5Default (ty0 : (List Int)) (r : GTerm) : Prop :=
  FnSound Try.prog 45 [.sl (List.map I ty0)] (.agg [.int .i64 r.fOp, .int .i64 r.fN, .osl (List.map I r.fType), .osl (List.map GTerm_O r.fKids)]) []
theorem spec_l5Default_s : ∀ p r, spec_l5Default p = some r → M_spec_l5Default p r := by
  refine spec_l5Default.partial_correctness M_spec_l5Default ?_
  rintro spec_l5Default_f spec_l5Default_ih ty0 r h
  show FnSound Try.prog 45 [.sl (List.map I ty0)] (.agg [.int .i64 r.fOp, .int .i64 r.fN, .osl (List.map I r.fType), .osl (List.map GTerm_O r.fKids)]) []
  refine FnSound.body0 tiok (fn := Try.f45) (code := B45) (by kernel_rfl) (by kernel_rfl) (by kernel_rfl) (by kernel_rfl) (nt := 49) (by kernel_rfl) (by kernel_rfl) (T := [(0, .sl (List.map I ty0))]) (O := []) (by kernel_rfl) (by kernel_rfl) (fun c hc => ?_)
  refine Wp.seqN (by kernel_rfl) ?_
  refine Wp.reg tiok mix hc (by kernel_rfl) (ah := none) (rs := [some (.new 1)]) (kt := [0, 2]) (ko := [1]) (T' := [(0, .sl (List.map I ty0)), (2, .ra 1 0)]) (O' := [(1, .box [.int .i64 0, .int .i64 0, .nils, .nils])]) (by kernel_rfl) trivial (by kernel_rfl) (by kernel_rfl) ?_
  refine seqQ_norm ?_
  refine Wp.seqN (by kernel_rfl) ?_
  obtain ⟨e_1_1, hi_1_1, h⟩ := bsome h
  refine Wp.reg tiok mix hc (by kernel_rfl) (ah := none) (rs := [some (.no), some (.el (.int .i64 e_1_1)), some (.no), some (.no)]) (kt := [0, 2, 3]) (ko := [1]) (T' := [(0, .sl (List.map I ty0)), (2, .ra 1 0), (3, .int .i64 e_1_1)]) (O' := [(1, .box [.int .i64 0, .int .i64 0, .nils, .nils])]) (by kernel_rfl) (And.intro (idx_sl (enc := I) (x := .int .i64 e_1_1) hi_1_1 (eq_I e_1_1)) trivial) (by kernel_rfl) (by kernel_rfl) ?_
  refine seqQ_norm ?_
  refine Wp.seqN (by kernel_rfl) ?_
  refine Wp.seqN (by kernel_rfl) ?_
  refine Wp.reg tiok mix hc (by kernel_rfl) (ah := none) (rs := [some (.no), some (.no)]) (kt := [0, 2, 3, 9]) (ko := [1]) (T' := [(0, .sl (List.map I ty0)), (2, .ra 1 0), (3, .int .i64 e_1_1), (9, .bool (e_1_1 == 0))]) (O' := [(1, .box [.int .i64 0, .int .i64 0, .nils, .nils])]) (by kernel_rfl) trivial (by kernel_rfl) (by kernel_rfl) ?_
  refine seqQ_norm ?_
  rcases itesome h with ⟨hb_1, h⟩ | ⟨hb_1, h⟩
  · refine Wp.condT (b := (e_1_1 == 0)) (by kernel_rfl) (by kernel_rfl) hb_1 ?_
    refine Wp.seqN (by kernel_rfl) ?_
    refine Wp.reg tiok mix hc (by kernel_rfl) (ah := none) (rs := [some (.no), some (.no)]) (kt := [2]) (ko := [1]) (T' := [(2, .ra 1 0)]) (O' := [(1, .box [.int .i64 1, .int .i64 0, .nils, .nils])]) (by kernel_rfl) trivial (by kernel_rfl) (by kernel_rfl) ?_
    refine seqQ_norm ?_
    refine Wp.retN (by kernel_rfl) ?_
    refine seqQ_ret ?_
    obtain rfl := Option.some.inj h
    exact RetQ.ret (fl := [true]) (by kernel_rfl)
  · refine Wp.condF (b := (e_1_1 == 0)) (by kernel_rfl) (by kernel_rfl) hb_1 ?_
    refine Wp.skipN (by kernel_rfl) ?_
    refine seqQ_norm ?_
    refine Wp.seqN (by kernel_rfl) ?_
    obtain ⟨r_4_1, hr_4_1, h⟩ := bsome h
    refine Wp.reg tiok mix hc (by kernel_rfl) (ah := none) (rs := [some (.no), some (.call (.osl (List.map I r_4_1)) [] 2), some (.no)]) (kt := [0, 2, 3, 4]) (ko := [1, 2]) (T' := [(0, .sl (List.map I ty0)), (2, .ra 1 0), (3, .int .i64 e_1_1), (4, .rs 2)]) (O' := [(1, .box [.int .i64 0, .int .i64 0, .nils, .nils]), (2, .arr (List.map I r_4_1))]) (by kernel_rfl) (And.intro (spec_l2Part_s _ _ hr_4_1) (And.intro bod_99 (And.intro (Or.inl rfl : ([] : List Nat) = [] ∨ noSh (.osl (List.map I r_4_1)) = true) trivial))) (by kernel_rfl) (by kernel_rfl) ?_
    refine seqQ_norm ?_
    refine Wp.seqN (by kernel_rfl) ?_
    refine Wp.blockN (i := 0) (by kernel_rfl) ?_
    refine Wp.seqN (by kernel_rfl) ?_
    obtain ⟨r_5_1, hr_5_1, h⟩ := bsome h
    refine Wp.reg tiok mix hc (by kernel_rfl) (ah := none) (rs := [some (.no), some (.call (.bool r_5_1) [] 1), some (.no)]) (kt := [0, 2, 3, 4, 13]) (ko := [1, 2]) (T' := [(0, .sl (List.map I ty0)), (2, .ra 1 0), (3, .int .i64 e_1_1), (4, .rs 2), (13, .bool r_5_1)]) (O' := [(1, .box [.int .i64 0, .int .i64 0, .nils, .nils]), (2, .arr (List.map I r_4_1))]) (by kernel_rfl) (And.intro (spec_l2Box_s _ _ hr_5_1) (And.intro bod_100 (And.intro (Or.inl rfl : ([] : List Nat) = [] ∨ noSh (.bool r_5_1) = true) trivial))) (by kernel_rfl) (by kernel_rfl) ?_
    refine seqQ_norm ?_
    rcases itesome h with ⟨hb_2, h⟩ | ⟨hb_2, h⟩
    · refine Wp.condT (b := r_5_1) (by kernel_rfl) (by kernel_rfl) hb_2 ?_
      refine Wp.seqN (by kernel_rfl) ?_
      obtain ⟨r_6_1, hr_6_1, h⟩ := bsome h
      obtain ⟨r_6_3, hr_6_3, h⟩ := bsome h
      refine Wp.reg tiok mix hc (by kernel_rfl) (ah := none) (rs := [some (.no), some (.call (.int .i64 r_6_1) [] 1), some (.no), some (.call (.agg [.int .i64 r_6_3.fOp, .int .i64 r_6_3.fN, .osl (List.map I r_6_3.fType), .osl (List.map GTerm_O r_6_3.fKids)]) [] 3), some (.eqv (.mk 5 true) ⟨[(20, .rs 5)], [(5, some (.arr (List.map GTerm_O [r_6_3]))), (3, none), (4, none)], [5]⟩), some (.no), some (.no)]) (kt := [2]) (ko := [1, 5]) (T' := [(2, .ra 1 0)]) (O' := [(1, .box [.int .i64 11, .int .i64 r_6_1, .nils, .rs 5]), (5, .arr (List.map GTerm_O [r_6_3]))]) (by kernel_rfl) (And.intro (spec_l2Grade_s _ _ hr_6_1) (And.intro bod_101 (And.intro (Or.inl rfl : ([] : List Nat) = [] ∨ noSh (.int .i64 r_6_1) = true) (And.intro (FnSound.args (A1 := [.sl (shares (List.map I r_4_1))]) (A2 := [.sl (List.map I r_4_1)]) (by simp only [List.map_nil, sh_I]) (spec_l5Default_ih _ _ hr_6_3)) (And.intro bod_45 (And.intro (Or.inr (nsh_cons rfl (nsh_cons rfl (nsh_cons (nsh_row nsh_I r_6_3.fType) (nsh_cons (nsh_row nsh_GTerm_O r_6_3.fKids) rfl)))) : ([2] : List Nat) = [] ∨ noSh (.agg [.int .i64 r_6_3.fOp, .int .i64 r_6_3.fN, .osl (List.map I r_6_3.fType), .osl (List.map GTerm_O r_6_3.fKids)]) = true) (And.intro (congrArg (fun z => (⟨[(20, .rs 5)], [(5, some (.arr z)), (3, none), (4, none)], [5]⟩ : Wr)) ((rows1 (eq_GTerm_O r_6_3) rows0) : [AV.agg [.int .i64 r_6_3.fOp, .int .i64 r_6_3.fN, AV.osl (List.map I r_6_3.fType), AV.osl (List.map GTerm_O r_6_3.fKids)]] = List.map GTerm_O [r_6_3])) trivial))))))) (by kernel_rfl) (by kernel_rfl) ?_
      refine seqQ_norm ?_
      refine Wp.retN (by kernel_rfl) ?_
      refine blockQ_ret ?_
      refine seqQ_ret ?_
      obtain rfl := Option.some.inj h
      exact RetQ.ret (fl := [true]) (by kernel_rfl)
    · refine Wp.condF (b := r_5_1) (by kernel_rfl) (by kernel_rfl) hb_2 ?_
      refine Wp.seqN (by kernel_rfl) ?_
      refine Wp.reg tiok mix hc (by kernel_rfl) (ah := none) (rs := [some (.no), some (.no), some (.no)]) (kt := [0, 2, 3, 4, 22]) (ko := [1, 2]) (T' := [(0, .sl (List.map I ty0)), (2, .ra 1 0), (3, .int .i64 e_1_1), (4, .rs 2), (22, .bool (e_1_1 == 1))]) (O' := [(1, .box [.int .i64 0, .int .i64 0, .nils, .nils]), (2, .arr (List.map I r_4_1))]) (by kernel_rfl) trivial (by kernel_rfl) (by kernel_rfl) ?_
      refine seqQ_norm ?_
      rcases itesome h with ⟨hb_3, h⟩ | ⟨hb_3, h⟩
      · refine Wp.condT (b := (e_1_1 == 1)) (by kernel_rfl) (by kernel_rfl) hb_3 ?_
        refine Wp.seqN (by kernel_rfl) ?_
        obtain ⟨r_8_1, hr_8_1, h⟩ := bsome h
        obtain ⟨r_8_3, hr_8_3, h⟩ := bsome h
        obtain ⟨r_8_4, hr_8_4, h⟩ := bsome h
        refine Wp.reg tiok mix hc (by kernel_rfl) (ah := none) (rs := [some (.no), some (.call (.agg [.int .i64 r_8_1.fOp, .int .i64 r_8_1.fN, .osl (List.map I r_8_1.fType), .osl (List.map GTerm_O r_8_1.fKids)]) [] 6), some (.no), some (.call (.osl (List.map I r_8_3)) [] 8), some (.call (.agg [.int .i64 r_8_4.fOp, .int .i64 r_8_4.fN, .osl (List.map I r_8_4.fType), .osl (List.map GTerm_O r_8_4.fKids)]) [] 9), some (.eqv (.mk 11 true) ⟨[(30, .rs 11)], [(11, some (.arr (List.map GTerm_O [r_8_1, r_8_4]))), (6, none), (7, none), (9, none), (10, none)], [11]⟩), some (.no), some (.no)]) (kt := [2]) (ko := [1, 11]) (T' := [(2, .ra 1 0)]) (O' := [(1, .box [.int .i64 4, .int .i64 0, .nils, .rs 11]), (11, .arr (List.map GTerm_O [r_8_1, r_8_4]))]) (by kernel_rfl) (And.intro (FnSound.args (A1 := [.sl (shares (List.map I r_4_1))]) (A2 := [.sl (List.map I r_4_1)]) (by simp only [List.map_nil, sh_I]) (spec_l5Default_ih _ _ hr_8_1)) (And.intro bod_45 (And.intro (Or.inr (nsh_cons rfl (nsh_cons rfl (nsh_cons (nsh_row nsh_I r_8_1.fType) (nsh_cons (nsh_row nsh_GTerm_O r_8_1.fKids) rfl)))) : ([2] : List Nat) = [] ∨ noSh (.agg [.int .i64 r_8_1.fOp, .int .i64 r_8_1.fN, .osl (List.map I r_8_1.fType), .osl (List.map GTerm_O r_8_1.fKids)]) = true) (And.intro (spec_l2Part_s _ _ hr_8_3) (And.intro bod_99 (And.intro (Or.inl rfl : ([] : List Nat) = [] ∨ noSh (.osl (List.map I r_8_3)) = true) (And.intro (FnSound.args (A1 := [.sl (shares (List.map I r_8_3))]) (A2 := [.sl (List.map I r_8_3)]) (by simp only [List.map_nil, sh_I]) (spec_l5Default_ih _ _ hr_8_4)) (And.intro bod_45 (And.intro (Or.inr (nsh_cons rfl (nsh_cons rfl (nsh_cons (nsh_row nsh_I r_8_4.fType) (nsh_cons (nsh_row nsh_GTerm_O r_8_4.fKids) rfl)))) : ([8] : List Nat) = [] ∨ noSh (.agg [.int .i64 r_8_4.fOp, .int .i64 r_8_4.fN, .osl (List.map I r_8_4.fType), .osl (List.map GTerm_O r_8_4.fKids)]) = true) (And.intro (congrArg (fun z => (⟨[(30, .rs 11)], [(11, some (.arr z)), (6, none), (7, none), (9, none), (10, none)], [11]⟩ : Wr)) ((rows1 (eq_GTerm_O r_8_1) (rows1 (eq_GTerm_O r_8_4) rows0)) : [AV.agg [.int .i64 r_8_1.fOp, .int .i64 r_8_1.fN, AV.osl (List.map I r_8_1.fType), AV.osl (List.map GTerm_O r_8_1.fKids)], AV.agg [.int .i64 r_8_4.fOp, .int .i64 r_8_4.fN, AV.osl (List.map I r_8_4.fType), AV.osl (List.map GTerm_O r_8_4.fKids)]] = List.map GTerm_O [r_8_1, r_8_4])) trivial)))))))))) (by kernel_rfl) (by kernel_rfl) ?_
        refine seqQ_norm ?_
        refine Wp.retN (by kernel_rfl) ?_
        refine blockQ_ret ?_
        refine seqQ_ret ?_
        obtain rfl := Option.some.inj h
        exact RetQ.ret (fl := [true]) (by kernel_rfl)
      · refine Wp.condF (b := (e_1_1 == 1)) (by kernel_rfl) (by kernel_rfl) hb_3 ?_
        refine Wp.seqN (by kernel_rfl) ?_
        refine Wp.reg tiok mix hc (by kernel_rfl) (ah := none) (rs := [some (.no), some (.no), some (.no)]) (kt := [0, 2, 3, 4, 32]) (ko := [1, 2]) (T' := [(0, .sl (List.map I ty0)), (2, .ra 1 0), (3, .int .i64 e_1_1), (4, .rs 2), (32, .bool (e_1_1 == 2))]) (O' := [(1, .box [.int .i64 0, .int .i64 0, .nils, .nils]), (2, .arr (List.map I r_4_1))]) (by kernel_rfl) trivial (by kernel_rfl) (by kernel_rfl) ?_
        refine seqQ_norm ?_
        rcases itesome h with ⟨hb_4, h⟩ | ⟨hb_4, h⟩
        · refine Wp.condT (b := (e_1_1 == 2)) (by kernel_rfl) (by kernel_rfl) hb_4 ?_
          refine Wp.seqN (by kernel_rfl) ?_
          obtain ⟨r_10_1, hr_10_1, h⟩ := bsome h
          obtain ⟨r_10_3, hr_10_3, h⟩ := bsome h
          refine Wp.reg tiok mix hc (by kernel_rfl) (ah := none) (rs := [some (.no), some (.call (.osl (List.map I r_10_1)) [] 12), some (.no), some (.call (.agg [.int .i64 r_10_3.fOp, .int .i64 r_10_3.fN, .osl (List.map I r_10_3.fType), .osl (List.map GTerm_O r_10_3.fKids)]) [] 13), some (.eqv (.mk 15 true) ⟨[(39, .rs 15)], [(15, some (.arr (List.map GTerm_O [r_10_3]))), (13, none), (14, none)], [15]⟩), some (.no), some (.no)]) (kt := [2]) (ko := [1, 12, 15]) (T' := [(2, .ra 1 0)]) (O' := [(1, .box [.int .i64 6, .int .i64 0, .rs 12, .rs 15]), (12, .arr (List.map I r_10_1)), (15, .arr (List.map GTerm_O [r_10_3]))]) (by kernel_rfl) (And.intro (spec_l2Part_s _ _ hr_10_1) (And.intro bod_99 (And.intro (Or.inl rfl : ([] : List Nat) = [] ∨ noSh (.osl (List.map I r_10_1)) = true) (And.intro (FnSound.args (A1 := [.sl (shares (List.map I r_4_1))]) (A2 := [.sl (List.map I r_4_1)]) (by simp only [List.map_nil, sh_I]) (spec_l5Default_ih _ _ hr_10_3)) (And.intro bod_45 (And.intro (Or.inr (nsh_cons rfl (nsh_cons rfl (nsh_cons (nsh_row nsh_I r_10_3.fType) (nsh_cons (nsh_row nsh_GTerm_O r_10_3.fKids) rfl)))) : ([2] : List Nat) = [] ∨ noSh (.agg [.int .i64 r_10_3.fOp, .int .i64 r_10_3.fN, .osl (List.map I r_10_3.fType), .osl (List.map GTerm_O r_10_3.fKids)]) = true) (And.intro (congrArg (fun z => (⟨[(39, .rs 15)], [(15, some (.arr z)), (13, none), (14, none)], [15]⟩ : Wr)) ((rows1 (eq_GTerm_O r_10_3) rows0) : [AV.agg [.int .i64 r_10_3.fOp, .int .i64 r_10_3.fN, AV.osl (List.map I r_10_3.fType), AV.osl (List.map GTerm_O r_10_3.fKids)]] = List.map GTerm_O [r_10_3])) trivial))))))) (by kernel_rfl) (by kernel_rfl) ?_
          refine seqQ_norm ?_
          refine Wp.retN (by kernel_rfl) ?_
          refine blockQ_ret ?_
          refine seqQ_ret ?_
          obtain rfl := Option.some.inj h
          exact RetQ.ret (fl := [true]) (by kernel_rfl)
        · refine Wp.condF (b := (e_1_1 == 2)) (by kernel_rfl) (by kernel_rfl) hb_4 ?_
          refine Wp.skipN (by kernel_rfl) ?_
          refine blockQ_norm ?_
          refine seqQ_norm ?_
          refine Wp.seqN (by kernel_rfl) ?_
          obtain ⟨r_11_1, hr_11_1, h⟩ := bsome h
          obtain ⟨r_11_4, hr_11_4, h⟩ := bsome h
          obtain ⟨r_11_5, hr_11_5, h⟩ := bsome h
          refine Wp.reg tiok mix hc (by kernel_rfl) (ah := none) (rs := [some (.no), some (.call (.int .i64 r_11_1) [] 1), some (.no), some (.no), some (.call (.osl (List.map I r_11_4)) [] 16), some (.call (.agg [.int .i64 r_11_5.fOp, .int .i64 r_11_5.fN, .osl (List.map I r_11_5.fType), .osl (List.map GTerm_O r_11_5.fKids)]) [] 17), some (.eqv (.mk 19 true) ⟨[(47, .rs 19)], [(19, some (.arr (List.map GTerm_O [r_11_5]))), (17, none), (18, none)], [19]⟩), some (.no), some (.no)]) (kt := [2]) (ko := [1, 2, 19]) (T' := [(2, .ra 1 0)]) (O' := [(1, .box [.int .i64 9, .int .i64 r_11_1, .rs 2, .rs 19]), (2, .arr (List.map I r_4_1)), (19, .arr (List.map GTerm_O [r_11_5]))]) (by kernel_rfl) (And.intro (spec_l2Grade_s _ _ hr_11_1) (And.intro bod_101 (And.intro (Or.inl rfl : ([] : List Nat) = [] ∨ noSh (.int .i64 r_11_1) = true) (And.intro (spec_l2Part_s _ _ hr_11_4) (And.intro bod_99 (And.intro (Or.inl rfl : ([] : List Nat) = [] ∨ noSh (.osl (List.map I r_11_4)) = true) (And.intro (FnSound.args (A1 := [.sl (shares (List.map I r_11_4))]) (A2 := [.sl (List.map I r_11_4)]) (by simp only [List.map_nil, sh_I]) (spec_l5Default_ih _ _ hr_11_5)) (And.intro bod_45 (And.intro (Or.inr (nsh_cons rfl (nsh_cons rfl (nsh_cons (nsh_row nsh_I r_11_5.fType) (nsh_cons (nsh_row nsh_GTerm_O r_11_5.fKids) rfl)))) : ([16] : List Nat) = [] ∨ noSh (.agg [.int .i64 r_11_5.fOp, .int .i64 r_11_5.fN, .osl (List.map I r_11_5.fType), .osl (List.map GTerm_O r_11_5.fKids)]) = true) (And.intro (congrArg (fun z => (⟨[(47, .rs 19)], [(19, some (.arr z)), (17, none), (18, none)], [19]⟩ : Wr)) ((rows1 (eq_GTerm_O r_11_5) rows0) : [AV.agg [.int .i64 r_11_5.fOp, .int .i64 r_11_5.fN, AV.osl (List.map I r_11_5.fType), AV.osl (List.map GTerm_O r_11_5.fKids)]] = List.map GTerm_O [r_11_5])) trivial)))))))))) (by kernel_rfl) (by kernel_rfl) ?_
          refine seqQ_norm ?_
          refine Wp.retN (by kernel_rfl) ?_
          obtain rfl := Option.some.inj h
          exact RetQ.ret (fl := [true]) (by kernel_rfl)
def spec_DefaultTerm (p : GSystem × (List Int)) : Option (GTerm × Bool) :=
  match p with
  | (s0, ty1) =>
    (spec_IsType (s0, ty1)) >>= fun r_1_2 =>
    if r_1_2 = true then
      (spec_l5Default ty1) >>= fun r_3_1 =>
      some (r_3_1, true)
    else
      some ((GTerm.mk 0 0 [] []), false)
def M_spec_DefaultTerm (p : GSystem × (List Int)) (r : GTerm × Bool) : Prop :=
  match p with
  | (s0, ty1) => FnSound Try.prog 12 [.agg [.int .i64 s0.fSize, .sl (List.map I s0.fPlus), .sl (List.map I s0.fTimes), .sl (List.map AV.bool s0.fBelow)], .sl (List.map I ty1)] (.tup [.agg [.int .i64 r.1.fOp, .int .i64 r.1.fN, .osl (List.map I r.1.fType), .osl (List.map GTerm_O r.1.fKids)], .bool r.2]) []
theorem spec_DefaultTerm_s : ∀ p r, spec_DefaultTerm p = some r → M_spec_DefaultTerm p r := by
  rintro ⟨s0, ty1⟩ r h
  unfold spec_DefaultTerm at h
  show FnSound Try.prog 12 [.agg [.int .i64 s0.fSize, .sl (List.map I s0.fPlus), .sl (List.map I s0.fTimes), .sl (List.map AV.bool s0.fBelow)], .sl (List.map I ty1)] (.tup [.agg [.int .i64 r.1.fOp, .int .i64 r.1.fN, .osl (List.map I r.1.fType), .osl (List.map GTerm_O r.1.fKids)], .bool r.2]) []
  refine FnSound.body0 tiok (fn := Try.f12) (code := B12) (by kernel_rfl) (by kernel_rfl) (by kernel_rfl) (by kernel_rfl) (nt := 13) (by kernel_rfl) (by kernel_rfl) (T := [(0, .agg [.int .i64 s0.fSize, .sl (List.map I s0.fPlus), .sl (List.map I s0.fTimes), .sl (List.map AV.bool s0.fBelow)]), (1, .sl (List.map I ty1))]) (O := []) (by kernel_rfl) (by kernel_rfl) (fun c hc => ?_)
  refine Wp.seqN (by kernel_rfl) ?_
  refine Wp.reg tiok mix hc (by kernel_rfl) (ah := none) (rs := [some (.new 1), some (.new 2), some (.no)]) (kt := [1, 2, 4]) (ko := [1, 2]) (T' := [(1, .sl (List.map I ty1)), (2, .ra 1 0), (4, .ra 2 0)]) (O' := [(1, .box [.int .i64 s0.fSize, .sl (List.map I s0.fPlus), .sl (List.map I s0.fTimes), .sl (List.map AV.bool s0.fBelow)]), (2, .box [.int .i64 0, .int .i64 0, .nils, .nils])]) (by kernel_rfl) trivial (by kernel_rfl) (by kernel_rfl) ?_
  refine seqQ_norm ?_
  refine Wp.seqN (by kernel_rfl) ?_
  refine Wp.seqN (by kernel_rfl) ?_
  obtain ⟨r_1_2, hr_1_2, h⟩ := bsome h
  refine Wp.reg tiok mix hc (by kernel_rfl) (ah := none) (rs := [some (.no), some (.no), some (.call (.bool r_1_2) [] 1), some (.no)]) (kt := [1, 4, 9]) (ko := [2]) (T' := [(1, .sl (List.map I ty1)), (4, .ra 2 0), (9, .bool (!r_1_2))]) (O' := [(2, .box [.int .i64 0, .int .i64 0, .nils, .nils])]) (by kernel_rfl) (And.intro (spec_IsType_s _ _ hr_1_2) (And.intro bod_44 (And.intro (Or.inl rfl : ([] : List Nat) = [] ∨ noSh (.bool r_1_2) = true) trivial))) (by kernel_rfl) (by kernel_rfl) ?_
  refine seqQ_norm ?_
  rcases itesome h with ⟨hb_1, h⟩ | ⟨hb_1, h⟩
  · refine Wp.condF (b := (!r_1_2)) (by kernel_rfl) (by kernel_rfl) (nF hb_1) ?_
    refine Wp.skipN (by kernel_rfl) ?_
    refine seqQ_norm ?_
    refine Wp.seqN (by kernel_rfl) ?_
    obtain ⟨r_3_1, hr_3_1, h⟩ := bsome h
    refine Wp.reg tiok mix hc (by kernel_rfl) (ah := none) (rs := [some (.no), some (.call (.agg [.int .i64 r_3_1.fOp, .int .i64 r_3_1.fN, .osl (List.map I r_3_1.fType), .osl (List.map GTerm_O r_3_1.fKids)]) [] 3), some (.no), some (.no)]) (kt := [4, 5]) (ko := [2, 3, 4]) (T' := [(4, .ra 2 0), (5, .bool true)]) (O' := [(2, .box [.int .i64 r_3_1.fOp, .int .i64 r_3_1.fN, .rs 3, .rs 4]), (3, .arr (List.map I r_3_1.fType)), (4, .arr (List.map GTerm_O r_3_1.fKids))]) (by kernel_rfl) (And.intro (spec_l5Default_s _ _ hr_3_1) (And.intro bod_45 (And.intro (Or.inl rfl : ([] : List Nat) = [] ∨ noSh (.agg [.int .i64 r_3_1.fOp, .int .i64 r_3_1.fN, .osl (List.map I r_3_1.fType), .osl (List.map GTerm_O r_3_1.fKids)]) = true) trivial))) (by kernel_rfl) (by kernel_rfl) ?_
    refine seqQ_norm ?_
    refine Wp.retN (by kernel_rfl) ?_
    obtain rfl := Option.some.inj h
    exact RetQ.ret (fl := [true, true]) (by kernel_rfl)
  · refine Wp.condT (b := (!r_1_2)) (by kernel_rfl) (by kernel_rfl) (nT hb_1) ?_
    refine Wp.seqN (by kernel_rfl) ?_
    refine Wp.reg tiok mix hc (by kernel_rfl) (ah := none) (rs := [some (.no), some (.no), some (.no)]) (kt := [4, 5]) (ko := [2]) (T' := [(4, .ra 2 0), (5, .bool false)]) (O' := [(2, .box [.int .i64 0, .int .i64 0, .nils, .nils])]) (by kernel_rfl) trivial (by kernel_rfl) (by kernel_rfl) ?_
    refine seqQ_norm ?_
    refine Wp.retN (by kernel_rfl) ?_
    refine seqQ_ret ?_
    obtain rfl := Option.some.inj h
    exact RetQ.ret (fl := [true, true]) (by kernel_rfl)
def impl_within (p : Int × Int × Int) : Option (Bool) :=
  match p with
  | (n0, low1, high2) =>
    (
      if (decide (n0 ≥ low1)) = true then
        some ((decide (n0 ≤ high2)))
      else
        some (false)
    ) >>= fun v_1 =>
    some v_1
def M_impl_within (p : Int × Int × Int) (r : Bool) : Prop :=
  match p with
  | (n0, low1, high2) => FnSound Try.prog 64 [.int .i64 n0, .int .i64 low1, .int .i64 high2] (.bool r) []
theorem impl_within_s : ∀ p r, impl_within p = some r → M_impl_within p r := by
  rintro ⟨n0, low1, high2⟩ r h
  unfold impl_within at h
  show FnSound Try.prog 64 [.int .i64 n0, .int .i64 low1, .int .i64 high2] (.bool r) []
  refine FnSound.body0 tiok (fn := Try.f64) (code := B64) (by kernel_rfl) (by kernel_rfl) (by kernel_rfl) (by kernel_rfl) (nt := 15) (by kernel_rfl) (by kernel_rfl) (T := [(0, .int .i64 n0), (1, .int .i64 low1), (2, .int .i64 high2)]) (O := []) (by kernel_rfl) (by kernel_rfl) (fun c hc => ?_)
  refine Wp.seqN (by kernel_rfl) ?_
  refine Wp.reg tiok mix hc (by kernel_rfl) (ah := none) (rs := [some (.no)]) (kt := [0, 1, 2]) (ko := []) (T' := [(0, .int .i64 n0), (1, .int .i64 low1), (2, .int .i64 high2)]) (O' := []) (by kernel_rfl) trivial (by kernel_rfl) (by kernel_rfl) ?_
  refine seqQ_norm ?_
  refine Wp.seqN (by kernel_rfl) ?_
  obtain ⟨v_1, hj_2, h⟩ := bsome h
  refine Wp.into (x := .normal) (mkS [(6, .bool v_1)] []) ?_ ?_
  · replace h := hj_2
    rcases itesome h with ⟨hb_1_0, h⟩ | ⟨hb_1_0, h⟩
    · refine Wp.reg tiok mix hc (by kernel_rfl) (ah := none) (rs := [some (.no), some (.no), some (.no), some (.no), some (.no), some (.no), some (.no), some (.cond true), some (.no)]) (kt := [6]) (ko := []) (T' := [(6, .bool (decide (n0 ≤ high2)))]) (O' := []) (by kernel_rfl) (And.intro hb_1_0 (And.intro hb_1_0 (And.intro hb_1_0 (And.intro hb_1_0 trivial)))) (by kernel_rfl) (by kernel_rfl) ?_
      obtain rfl := Option.some.inj h
      exact Into.mk
    · refine Wp.reg tiok mix hc (by kernel_rfl) (ah := none) (rs := [some (.no), some (.no), some (.no), some (.no), none, none, none, some (.cond false), some (.no)]) (kt := [6]) (ko := []) (T' := [(6, .bool false)]) (O' := []) (by kernel_rfl) (And.intro (neT hb_1_0 : (decide (n0 ≥ low1)) ≠ true) (And.intro (neT hb_1_0 : (decide (n0 ≥ low1)) ≠ true) (And.intro (neT hb_1_0 : (decide (n0 ≥ low1)) ≠ true) (And.intro hb_1_0 trivial)))) (by kernel_rfl) (by kernel_rfl) ?_
      obtain rfl := Option.some.inj h
      exact Into.mk
  · clear hj_2
    refine seqQ_norm ?_
    refine Wp.retN (by kernel_rfl) ?_
    obtain rfl := Option.some.inj h
    exact RetQ.ret (fl := [true]) (by kernel_rfl)
def impl_shape (code0 : Int) : Option (Int × Int) :=
    (impl_within (code0, 0, 2)) >>= fun r_1_1 =>
    if r_1_1 = true then
      some (code0, (-1))
    else
      (impl_within (code0, 3, 18)) >>= fun r_3_1 =>
      if r_3_1 = true then
        some (3, (wr (code0 - 3)))
      else
        (impl_within (code0, 19, 34)) >>= fun r_5_1 =>
        if r_5_1 = true then
          some (4, (wr (code0 - 19)))
        else
          if (code0 == 35) = true then
            some (3, (-1))
          else
            if (code0 == 36) = true then
              some (4, (-1))
            else
              some (5, (-1))
def M_impl_shape (code0 : Int) (r : Int × Int) : Prop :=
  FnSound Try.prog 103 [.int .i64 code0] (.tup [.int .i64 r.1, .int .i64 r.2]) []
theorem impl_shape_s : ∀ p r, impl_shape p = some r → M_impl_shape p r := by
  rintro code0 r h
  unfold impl_shape at h
  show FnSound Try.prog 103 [.int .i64 code0] (.tup [.int .i64 r.1, .int .i64 r.2]) []
  refine FnSound.body0 tiok (fn := Try.f103) (code := B103) (by kernel_rfl) (by kernel_rfl) (by kernel_rfl) (by kernel_rfl) (nt := 24) (by kernel_rfl) (by kernel_rfl) (T := [(0, .int .i64 code0)]) (O := []) (by kernel_rfl) (by kernel_rfl) (fun c hc => ?_)
  refine Wp.seqN (by kernel_rfl) ?_
  refine Wp.reg tiok mix hc (by kernel_rfl) (ah := none) (rs := [some (.no), some (.no)]) (kt := [0]) (ko := []) (T' := [(0, .int .i64 code0)]) (O' := []) (by kernel_rfl) trivial (by kernel_rfl) (by kernel_rfl) ?_
  refine seqQ_norm ?_
  refine Wp.seqN (by kernel_rfl) ?_
  refine Wp.blockN (i := 0) (by kernel_rfl) ?_
  refine Wp.seqN (by kernel_rfl) ?_
  obtain ⟨r_1_1, hr_1_1, h⟩ := bsome h
  refine Wp.reg tiok mix hc (by kernel_rfl) (ah := none) (rs := [some (.no), some (.call (.bool r_1_1) [] 1), some (.no)]) (kt := [0, 4]) (ko := []) (T' := [(0, .int .i64 code0), (4, .bool r_1_1)]) (O' := []) (by kernel_rfl) (And.intro (impl_within_s _ _ hr_1_1) (And.intro bod_64 (And.intro (Or.inl rfl : ([] : List Nat) = [] ∨ noSh (.bool r_1_1) = true) trivial))) (by kernel_rfl) (by kernel_rfl) ?_
  refine seqQ_norm ?_
  rcases itesome h with ⟨hb_1, h⟩ | ⟨hb_1, h⟩
  · refine Wp.condT (b := r_1_1) (by kernel_rfl) (by kernel_rfl) hb_1 ?_
    refine Wp.seqN (by kernel_rfl) ?_
    refine Wp.reg tiok mix hc (by kernel_rfl) (ah := none) (rs := [some (.no), some (.no), some (.no)]) (kt := [2, 3]) (ko := []) (T' := [(2, .int .i64 code0), (3, .int .i64 (-1))]) (O' := []) (by kernel_rfl) trivial (by kernel_rfl) (by kernel_rfl) ?_
    refine seqQ_norm ?_
    refine Wp.retN (by kernel_rfl) ?_
    refine blockQ_ret ?_
    refine seqQ_ret ?_
    obtain rfl := Option.some.inj h
    exact RetQ.ret (fl := [true, true]) (by kernel_rfl)
  · refine Wp.condF (b := r_1_1) (by kernel_rfl) (by kernel_rfl) hb_1 ?_
    refine Wp.seqN (by kernel_rfl) ?_
    obtain ⟨r_3_1, hr_3_1, h⟩ := bsome h
    refine Wp.reg tiok mix hc (by kernel_rfl) (ah := none) (rs := [some (.no), some (.call (.bool r_3_1) [] 1), some (.no)]) (kt := [0, 8]) (ko := []) (T' := [(0, .int .i64 code0), (8, .bool r_3_1)]) (O' := []) (by kernel_rfl) (And.intro (impl_within_s _ _ hr_3_1) (And.intro bod_64 (And.intro (Or.inl rfl : ([] : List Nat) = [] ∨ noSh (.bool r_3_1) = true) trivial))) (by kernel_rfl) (by kernel_rfl) ?_
    refine seqQ_norm ?_
    rcases itesome h with ⟨hb_2, h⟩ | ⟨hb_2, h⟩
    · refine Wp.condT (b := r_3_1) (by kernel_rfl) (by kernel_rfl) hb_2 ?_
      refine Wp.seqN (by kernel_rfl) ?_
      refine Wp.reg tiok mix hc (by kernel_rfl) (ah := none) (rs := [some (.no), some (.no), some (.no), some (.no)]) (kt := [2, 3]) (ko := []) (T' := [(2, .int .i64 3), (3, .int .i64 (wr (code0 - 3)))]) (O' := []) (by kernel_rfl) trivial (by kernel_rfl) (by kernel_rfl) ?_
      refine seqQ_norm ?_
      refine Wp.retN (by kernel_rfl) ?_
      refine blockQ_ret ?_
      refine seqQ_ret ?_
      obtain rfl := Option.some.inj h
      exact RetQ.ret (fl := [true, true]) (by kernel_rfl)
    · refine Wp.condF (b := r_3_1) (by kernel_rfl) (by kernel_rfl) hb_2 ?_
      refine Wp.seqN (by kernel_rfl) ?_
      obtain ⟨r_5_1, hr_5_1, h⟩ := bsome h
      refine Wp.reg tiok mix hc (by kernel_rfl) (ah := none) (rs := [some (.no), some (.call (.bool r_5_1) [] 1), some (.no)]) (kt := [0, 13]) (ko := []) (T' := [(0, .int .i64 code0), (13, .bool r_5_1)]) (O' := []) (by kernel_rfl) (And.intro (impl_within_s _ _ hr_5_1) (And.intro bod_64 (And.intro (Or.inl rfl : ([] : List Nat) = [] ∨ noSh (.bool r_5_1) = true) trivial))) (by kernel_rfl) (by kernel_rfl) ?_
      refine seqQ_norm ?_
      rcases itesome h with ⟨hb_3, h⟩ | ⟨hb_3, h⟩
      · refine Wp.condT (b := r_5_1) (by kernel_rfl) (by kernel_rfl) hb_3 ?_
        refine Wp.seqN (by kernel_rfl) ?_
        refine Wp.reg tiok mix hc (by kernel_rfl) (ah := none) (rs := [some (.no), some (.no), some (.no), some (.no)]) (kt := [2, 3]) (ko := []) (T' := [(2, .int .i64 4), (3, .int .i64 (wr (code0 - 19)))]) (O' := []) (by kernel_rfl) trivial (by kernel_rfl) (by kernel_rfl) ?_
        refine seqQ_norm ?_
        refine Wp.retN (by kernel_rfl) ?_
        refine blockQ_ret ?_
        refine seqQ_ret ?_
        obtain rfl := Option.some.inj h
        exact RetQ.ret (fl := [true, true]) (by kernel_rfl)
      · refine Wp.condF (b := r_5_1) (by kernel_rfl) (by kernel_rfl) hb_3 ?_
        refine Wp.seqN (by kernel_rfl) ?_
        refine Wp.reg tiok mix hc (by kernel_rfl) (ah := none) (rs := [some (.no), some (.no), some (.no)]) (kt := [0, 18]) (ko := []) (T' := [(0, .int .i64 code0), (18, .bool (code0 == 35))]) (O' := []) (by kernel_rfl) trivial (by kernel_rfl) (by kernel_rfl) ?_
        refine seqQ_norm ?_
        rcases itesome h with ⟨hb_4, h⟩ | ⟨hb_4, h⟩
        · refine Wp.condT (b := (code0 == 35)) (by kernel_rfl) (by kernel_rfl) hb_4 ?_
          refine Wp.seqN (by kernel_rfl) ?_
          refine Wp.reg tiok mix hc (by kernel_rfl) (ah := none) (rs := [some (.no), some (.no)]) (kt := [2, 3]) (ko := []) (T' := [(2, .int .i64 3), (3, .int .i64 (-1))]) (O' := []) (by kernel_rfl) trivial (by kernel_rfl) (by kernel_rfl) ?_
          refine seqQ_norm ?_
          refine Wp.retN (by kernel_rfl) ?_
          refine blockQ_ret ?_
          refine seqQ_ret ?_
          obtain rfl := Option.some.inj h
          exact RetQ.ret (fl := [true, true]) (by kernel_rfl)
        · refine Wp.condF (b := (code0 == 35)) (by kernel_rfl) (by kernel_rfl) hb_4 ?_
          refine Wp.seqN (by kernel_rfl) ?_
          refine Wp.reg tiok mix hc (by kernel_rfl) (ah := none) (rs := [some (.no), some (.no), some (.no)]) (kt := [21]) (ko := []) (T' := [(21, .bool (code0 == 36))]) (O' := []) (by kernel_rfl) trivial (by kernel_rfl) (by kernel_rfl) ?_
          refine seqQ_norm ?_
          rcases itesome h with ⟨hb_5, h⟩ | ⟨hb_5, h⟩
          · refine Wp.condT (b := (code0 == 36)) (by kernel_rfl) (by kernel_rfl) hb_5 ?_
            refine Wp.seqN (by kernel_rfl) ?_
            refine Wp.reg tiok mix hc (by kernel_rfl) (ah := none) (rs := [some (.no), some (.no)]) (kt := [2, 3]) (ko := []) (T' := [(2, .int .i64 4), (3, .int .i64 (-1))]) (O' := []) (by kernel_rfl) trivial (by kernel_rfl) (by kernel_rfl) ?_
            refine seqQ_norm ?_
            refine Wp.retN (by kernel_rfl) ?_
            refine blockQ_ret ?_
            refine seqQ_ret ?_
            obtain rfl := Option.some.inj h
            exact RetQ.ret (fl := [true, true]) (by kernel_rfl)
          · refine Wp.condF (b := (code0 == 36)) (by kernel_rfl) (by kernel_rfl) hb_5 ?_
            refine Wp.skipN (by kernel_rfl) ?_
            refine blockQ_norm ?_
            refine seqQ_norm ?_
            refine Wp.seqN (by kernel_rfl) ?_
            refine Wp.reg tiok mix hc (by kernel_rfl) (ah := none) (rs := [some (.no), some (.no)]) (kt := [2, 3]) (ko := []) (T' := [(2, .int .i64 5), (3, .int .i64 (-1))]) (O' := []) (by kernel_rfl) trivial (by kernel_rfl) (by kernel_rfl) ?_
            refine seqQ_norm ?_
            refine Wp.retN (by kernel_rfl) ?_
            obtain rfl := Option.some.inj h
            exact RetQ.ret (fl := [true, true]) (by kernel_rfl)
def impl_typeEnd (p : (List Int) × Int) : Option (Int) :=
  match p with
  | (ty0, at1) =>
    (
      if (decide (at1 < 0)) = true then
        some (true)
      else
        some ((decide (at1 ≥ (ty0.length : Int))))
    ) >>= fun v_1 =>
    if v_1 = true then
      some (-1)
    else
      (idx ty0 at1) >>= fun e_3_2 =>
      (impl_shape e_3_2) >>= fun (r_3_4_0, r_3_4_1) =>
      if (r_3_4_0 == 0) = true then
        some (wr (at1 + 1))
      else
        if (r_3_4_0 == 4) = true then
          (impl_typeEnd (ty0, (wr (at1 + 1)))) >>= fun r_8_3 =>
          some r_8_3
        else
          if (r_3_4_0 == 5) = true then
            some (-1)
          else
            (impl_typeEnd (ty0, (wr (at1 + 1)))) >>= fun r_11_4 =>
            (impl_typeEnd (ty0, r_11_4)) >>= fun r_11_5 =>
            some r_11_5
  partial_fixpoint
def M_impl_typeEnd (p : (List Int) × Int) (r : Int) : Prop :=
  match p with
  | (ty0, at1) => FnSound Try.prog 151 [.sl (List.map I ty0), .int .i64 at1] (.int .i64 r) []
theorem impl_typeEnd_s : ∀ p r, impl_typeEnd p = some r → M_impl_typeEnd p r := by
  refine impl_typeEnd.partial_correctness M_impl_typeEnd ?_
  rintro impl_typeEnd_f impl_typeEnd_ih ⟨ty0, at1⟩ r h
  show FnSound Try.prog 151 [.sl (List.map I ty0), .int .i64 at1] (.int .i64 r) []
  refine FnSound.body0 tiok (fn := Try.f151) (code := B151) (by kernel_rfl) (by kernel_rfl) (by kernel_rfl) (by kernel_rfl) (nt := 42) (by kernel_rfl) (by kernel_rfl) (T := [(0, .sl (List.map I ty0)), (1, .int .i64 at1)]) (O := []) (by kernel_rfl) (by kernel_rfl) (fun c hc => ?_)
  refine Wp.seqN (by kernel_rfl) ?_
  refine Wp.reg tiok mix hc (by kernel_rfl) (ah := none) (rs := [some (.no)]) (kt := [0, 1]) (ko := []) (T' := [(0, .sl (List.map I ty0)), (1, .int .i64 at1)]) (O' := []) (by kernel_rfl) trivial (by kernel_rfl) (by kernel_rfl) ?_
  refine seqQ_norm ?_
  refine Wp.seqN (by kernel_rfl) ?_
  refine Wp.seqN (by kernel_rfl) ?_
  obtain ⟨v_1, hj_2, h⟩ := bsome h
  refine Wp.into (x := .normal) (mkS [(0, .sl (List.map I ty0)), (1, .int .i64 at1), (14, .bool v_1)] []) ?_ ?_
  · replace h := hj_2
    rcases itesome h with ⟨hb_1_0, h⟩ | ⟨hb_1_0, h⟩
    · refine Wp.reg tiok mix hc (by kernel_rfl) (ah := none) (rs := [some (.no), some (.no), some (.no), none, none, none, none, some (.cond true)]) (kt := [0, 1, 14]) (ko := []) (T' := [(0, .sl (List.map I ty0)), (1, .int .i64 at1), (14, .bool true)]) (O' := []) (by kernel_rfl) (And.intro (neF hb_1_0 : (decide (at1 < 0)) ≠ false) (And.intro (neF hb_1_0 : (decide (at1 < 0)) ≠ false) (And.intro (neF hb_1_0 : (decide (at1 < 0)) ≠ false) (And.intro (neF hb_1_0 : (decide (at1 < 0)) ≠ false) (And.intro hb_1_0 trivial))))) (by kernel_rfl) (by kernel_rfl) ?_
      obtain rfl := Option.some.inj h
      exact Into.mk
    · refine Wp.reg tiok mix hc (by kernel_rfl) (ah := none) (rs := [some (.no), some (.no), some (.no), some (.no), some (.no), some (.eqv (.no) ⟨[(12, .int .i64 (ty0.length : Int))], [], []⟩), some (.no), some (.cond false)]) (kt := [0, 1, 14]) (ko := []) (T' := [(0, .sl (List.map I ty0)), (1, .int .i64 at1), (14, .bool (decide (at1 ≥ (ty0.length : Int))))]) (O' := []) (by kernel_rfl) (And.intro hb_1_0 (And.intro hb_1_0 (And.intro hb_1_0 (And.intro (lenT (d := 12) I ty0) (And.intro hb_1_0 (And.intro hb_1_0 trivial)))))) (by kernel_rfl) (by kernel_rfl) ?_
      obtain rfl := Option.some.inj h
      exact Into.mk
  · clear hj_2
    refine seqQ_norm ?_
    rcases itesome h with ⟨hb_3, h⟩ | ⟨hb_3, h⟩
    · refine Wp.condT (b := v_1) (by kernel_rfl) (by kernel_rfl) hb_3 ?_
      refine Wp.seqN (by kernel_rfl) ?_
      refine Wp.reg tiok mix hc (by kernel_rfl) (ah := none) (rs := [some (.no)]) (kt := [4]) (ko := []) (T' := [(4, .int .i64 (-1))]) (O' := []) (by kernel_rfl) trivial (by kernel_rfl) (by kernel_rfl) ?_
      refine seqQ_norm ?_
      refine Wp.retN (by kernel_rfl) ?_
      refine seqQ_ret ?_
      obtain rfl := Option.some.inj h
      exact RetQ.ret (fl := [true]) (by kernel_rfl)
    · refine Wp.condF (b := v_1) (by kernel_rfl) (by kernel_rfl) hb_3 ?_
      refine Wp.skipN (by kernel_rfl) ?_
      refine seqQ_norm ?_
      refine Wp.seqN (by kernel_rfl) ?_
      obtain ⟨e_3_2, hi_3_2, h⟩ := bsome h
      obtain ⟨⟨r_3_4_0, r_3_4_1⟩, hr_3_4, h⟩ := bsome h
      refine Wp.reg tiok mix hc (by kernel_rfl) (ah := none) (rs := [some (.no), some (.no), some (.el (.int .i64 e_3_2)), some (.no), some (.call (.tup [.int .i64 r_3_4_0, .int .i64 r_3_4_1]) [] 1), some (.no), some (.no), some (.no), some (.no), some (.no)]) (kt := [0, 1, 5]) (ko := []) (T' := [(0, .sl (List.map I ty0)), (1, .int .i64 at1), (5, .int .i64 r_3_4_0)]) (O' := []) (by kernel_rfl) (And.intro (idx_sl (enc := I) (x := .int .i64 e_3_2) hi_3_2 (eq_I e_3_2)) (And.intro (impl_shape_s _ _ hr_3_4) (And.intro bod_103 (And.intro (Or.inl rfl : ([] : List Nat) = [] ∨ noSh (.tup [.int .i64 r_3_4_0, .int .i64 r_3_4_1]) = true) trivial)))) (by kernel_rfl) (by kernel_rfl) ?_
      refine seqQ_norm ?_
      refine Wp.seqN (by kernel_rfl) ?_
      refine Wp.seqN (by kernel_rfl) ?_
      refine Wp.reg tiok mix hc (by kernel_rfl) (ah := none) (rs := [some (.no)]) (kt := [0, 1, 23]) (ko := []) (T' := [(0, .sl (List.map I ty0)), (1, .int .i64 at1), (23, .int .i64 r_3_4_0)]) (O' := []) (by kernel_rfl) trivial (by kernel_rfl) (by kernel_rfl) ?_
      refine seqQ_norm ?_
      refine Wp.blockN (i := 0) (by kernel_rfl) ?_
      refine Wp.seqN (by kernel_rfl) ?_
      refine Wp.reg tiok mix hc (by kernel_rfl) (ah := none) (rs := [some (.no), some (.no)]) (kt := [0, 1, 23, 24]) (ko := []) (T' := [(0, .sl (List.map I ty0)), (1, .int .i64 at1), (23, .int .i64 r_3_4_0), (24, .bool (r_3_4_0 == 0))]) (O' := []) (by kernel_rfl) trivial (by kernel_rfl) (by kernel_rfl) ?_
      refine seqQ_norm ?_
      rcases itesome h with ⟨hb_4, h⟩ | ⟨hb_4, h⟩
      · refine Wp.condT (b := (r_3_4_0 == 0)) (by kernel_rfl) (by kernel_rfl) hb_4 ?_
        refine Wp.seqN (by kernel_rfl) ?_
        refine Wp.reg tiok mix hc (by kernel_rfl) (ah := none) (rs := [some (.no), some (.no), some (.no)]) (kt := [4]) (ko := []) (T' := [(4, .int .i64 (wr (at1 + 1)))]) (O' := []) (by kernel_rfl) trivial (by kernel_rfl) (by kernel_rfl) ?_
        refine seqQ_norm ?_
        refine Wp.retN (by kernel_rfl) ?_
        refine blockQ_ret ?_
        refine seqQ_ret ?_
        obtain rfl := Option.some.inj h
        exact RetQ.ret (fl := [true]) (by kernel_rfl)
      · refine Wp.condF (b := (r_3_4_0 == 0)) (by kernel_rfl) (by kernel_rfl) hb_4 ?_
        refine Wp.seqN (by kernel_rfl) ?_
        refine Wp.reg tiok mix hc (by kernel_rfl) (ah := none) (rs := [some (.no), some (.no)]) (kt := [0, 1, 23, 28]) (ko := []) (T' := [(0, .sl (List.map I ty0)), (1, .int .i64 at1), (23, .int .i64 r_3_4_0), (28, .bool (r_3_4_0 == 4))]) (O' := []) (by kernel_rfl) trivial (by kernel_rfl) (by kernel_rfl) ?_
        refine seqQ_norm ?_
        rcases itesome h with ⟨hb_5, h⟩ | ⟨hb_5, h⟩
        · refine Wp.condT (b := (r_3_4_0 == 4)) (by kernel_rfl) (by kernel_rfl) hb_5 ?_
          refine Wp.seqN (by kernel_rfl) ?_
          obtain ⟨r_8_3, hr_8_3, h⟩ := bsome h
          refine Wp.reg tiok mix hc (by kernel_rfl) (ah := none) (rs := [some (.no), some (.no), some (.no), some (.call (.int .i64 r_8_3) [] 1), some (.no)]) (kt := [4]) (ko := []) (T' := [(4, .int .i64 r_8_3)]) (O' := []) (by kernel_rfl) (And.intro (impl_typeEnd_ih _ _ hr_8_3) (And.intro bod_151 (And.intro (Or.inl rfl : ([] : List Nat) = [] ∨ noSh (.int .i64 r_8_3) = true) trivial))) (by kernel_rfl) (by kernel_rfl) ?_
          refine seqQ_norm ?_
          refine Wp.retN (by kernel_rfl) ?_
          refine blockQ_ret ?_
          refine seqQ_ret ?_
          obtain rfl := Option.some.inj h
          exact RetQ.ret (fl := [true]) (by kernel_rfl)
        · refine Wp.condF (b := (r_3_4_0 == 4)) (by kernel_rfl) (by kernel_rfl) hb_5 ?_
          refine Wp.seqN (by kernel_rfl) ?_
          refine Wp.reg tiok mix hc (by kernel_rfl) (ah := none) (rs := [some (.no), some (.no)]) (kt := [0, 1, 34]) (ko := []) (T' := [(0, .sl (List.map I ty0)), (1, .int .i64 at1), (34, .bool (r_3_4_0 == 5))]) (O' := []) (by kernel_rfl) trivial (by kernel_rfl) (by kernel_rfl) ?_
          refine seqQ_norm ?_
          rcases itesome h with ⟨hb_6, h⟩ | ⟨hb_6, h⟩
          · refine Wp.condT (b := (r_3_4_0 == 5)) (by kernel_rfl) (by kernel_rfl) hb_6 ?_
            refine Wp.seqN (by kernel_rfl) ?_
            refine Wp.reg tiok mix hc (by kernel_rfl) (ah := none) (rs := [some (.no)]) (kt := [4]) (ko := []) (T' := [(4, .int .i64 (-1))]) (O' := []) (by kernel_rfl) trivial (by kernel_rfl) (by kernel_rfl) ?_
            refine seqQ_norm ?_
            refine Wp.retN (by kernel_rfl) ?_
            refine blockQ_ret ?_
            refine seqQ_ret ?_
            obtain rfl := Option.some.inj h
            exact RetQ.ret (fl := [true]) (by kernel_rfl)
          · refine Wp.condF (b := (r_3_4_0 == 5)) (by kernel_rfl) (by kernel_rfl) hb_6 ?_
            refine Wp.skipN (by kernel_rfl) ?_
            refine blockQ_norm ?_
            refine seqQ_norm ?_
            refine Wp.seqN (by kernel_rfl) ?_
            obtain ⟨r_11_4, hr_11_4, h⟩ := bsome h
            obtain ⟨r_11_5, hr_11_5, h⟩ := bsome h
            refine Wp.reg tiok mix hc (by kernel_rfl) (ah := none) (rs := [some (.no), some (.no), some (.no), some (.no), some (.call (.int .i64 r_11_4) [] 1), some (.call (.int .i64 r_11_5) [] 1), some (.no)]) (kt := [4]) (ko := []) (T' := [(4, .int .i64 r_11_5)]) (O' := []) (by kernel_rfl) (And.intro (impl_typeEnd_ih _ _ hr_11_4) (And.intro bod_151 (And.intro (Or.inl rfl : ([] : List Nat) = [] ∨ noSh (.int .i64 r_11_4) = true) (And.intro (impl_typeEnd_ih _ _ hr_11_5) (And.intro bod_151 (And.intro (Or.inl rfl : ([] : List Nat) = [] ∨ noSh (.int .i64 r_11_5) = true) trivial)))))) (by kernel_rfl) (by kernel_rfl) ?_
            refine seqQ_norm ?_
            refine Wp.retN (by kernel_rfl) ?_
            obtain rfl := Option.some.inj h
            exact RetQ.ret (fl := [true]) (by kernel_rfl)
def impl_isWrittenType (ty0 : (List Int)) : Option (Bool) :=
    (
      (impl_within ((ty0.length : Int), 1, 40)) >>= fun r_1_2 =>
      if r_1_2 = true then
        (impl_typeEnd (ty0, 0)) >>= fun r_1_5 =>
        some ((r_1_5 == (ty0.length : Int)))
      else
        some (false)
    ) >>= fun v_1 =>
    some v_1
def M_impl_isWrittenType (ty0 : (List Int)) (r : Bool) : Prop :=
  FnSound Try.prog 150 [.sl (List.map I ty0)] (.bool r) []
theorem impl_isWrittenType_s : ∀ p r, impl_isWrittenType p = some r → M_impl_isWrittenType p r := by
  rintro ty0 r h
  unfold impl_isWrittenType at h
  show FnSound Try.prog 150 [.sl (List.map I ty0)] (.bool r) []
  refine FnSound.body0 tiok (fn := Try.f150) (code := B150) (by kernel_rfl) (by kernel_rfl) (by kernel_rfl) (by kernel_rfl) (nt := 13) (by kernel_rfl) (by kernel_rfl) (T := [(0, .sl (List.map I ty0))]) (O := []) (by kernel_rfl) (by kernel_rfl) (fun c hc => ?_)
  refine Wp.seqN (by kernel_rfl) ?_
  refine Wp.reg tiok mix hc (by kernel_rfl) (ah := none) (rs := [some (.no)]) (kt := [0]) (ko := []) (T' := [(0, .sl (List.map I ty0))]) (O' := []) (by kernel_rfl) trivial (by kernel_rfl) (by kernel_rfl) ?_
  refine seqQ_norm ?_
  refine Wp.seqN (by kernel_rfl) ?_
  obtain ⟨v_1, hj_2, h⟩ := bsome h
  refine Wp.into (x := .normal) (mkS [(2, .bool v_1)] []) ?_ ?_
  · replace h := hj_2
    obtain ⟨r_1_2, hr_1_2, h⟩ := bsome h
    rcases itesome h with ⟨hb_1_0, h⟩ | ⟨hb_1_0, h⟩
    · obtain ⟨r_1_5, hr_1_5, h⟩ := bsome h
      refine Wp.reg tiok mix hc (by kernel_rfl) (ah := none) (rs := [some (.no), some (.eqv (.no) ⟨[(4, .int .i64 (ty0.length : Int))], [], []⟩), some (.call (.bool r_1_2) [] 1), some (.no), some (.no), some (.call (.int .i64 r_1_5) [] 1), some (.no), some (.eqv (.no) ⟨[(10, .int .i64 (ty0.length : Int))], [], []⟩), some (.no), some (.cond true), some (.no)]) (kt := [2]) (ko := []) (T' := [(2, .bool (r_1_5 == (ty0.length : Int)))]) (O' := []) (by kernel_rfl) (And.intro (lenT (d := 4) I ty0) (And.intro (impl_within_s _ _ hr_1_2) (And.intro bod_64 (And.intro (Or.inl rfl : ([] : List Nat) = [] ∨ noSh (.bool r_1_2) = true) (And.intro hb_1_0 (And.intro hb_1_0 (And.intro (impl_typeEnd_s _ _ hr_1_5) (And.intro bod_151 (And.intro (Or.inl rfl : ([] : List Nat) = [] ∨ noSh (.int .i64 r_1_5) = true) (And.intro hb_1_0 (And.intro hb_1_0 (And.intro (lenT (d := 10) I ty0) (And.intro hb_1_0 (And.intro hb_1_0 trivial)))))))))))))) (by kernel_rfl) (by kernel_rfl) ?_
      obtain rfl := Option.some.inj h
      exact Into.mk
    · refine Wp.reg tiok mix hc (by kernel_rfl) (ah := none) (rs := [some (.no), some (.eqv (.no) ⟨[(4, .int .i64 (ty0.length : Int))], [], []⟩), some (.call (.bool r_1_2) [] 1), some (.no), none, none, none, none, none, some (.cond false), some (.no)]) (kt := [2]) (ko := []) (T' := [(2, .bool false)]) (O' := []) (by kernel_rfl) (And.intro (lenT (d := 4) I ty0) (And.intro (impl_within_s _ _ hr_1_2) (And.intro bod_64 (And.intro (Or.inl rfl : ([] : List Nat) = [] ∨ noSh (.bool r_1_2) = true) (And.intro (neT hb_1_0 : r_1_2 ≠ true) (And.intro (neT hb_1_0 : r_1_2 ≠ true) (And.intro (neT hb_1_0 : r_1_2 ≠ true) (And.intro (neT hb_1_0 : r_1_2 ≠ true) (And.intro (neT hb_1_0 : r_1_2 ≠ true) (And.intro hb_1_0 trivial)))))))))) (by kernel_rfl) (by kernel_rfl) ?_
      obtain rfl := Option.some.inj h
      exact Into.mk
  · clear hj_2
    refine seqQ_norm ?_
    refine Wp.retN (by kernel_rfl) ?_
    obtain rfl := Option.some.inj h
    exact RetQ.ret (fl := [true]) (by kernel_rfl)
def impl_Systemhas (p : GSystem × Int) : Option (Bool) :=
  match p with
  | (s0, g1) =>
    (impl_within (g1, 0, (wr (s0.fSize - 1)))) >>= fun r_1_4 =>
    some r_1_4
def M_impl_Systemhas (p : GSystem × Int) (r : Bool) : Prop :=
  match p with
  | (s0, g1) => FnSound Try.prog 117 [.agg [.int .i64 s0.fSize, .sl (List.map I s0.fPlus), .sl (List.map I s0.fTimes), .sl (List.map AV.bool s0.fBelow)], .int .i64 g1] (.bool r) []
theorem impl_Systemhas_s : ∀ p r, impl_Systemhas p = some r → M_impl_Systemhas p r := by
  rintro ⟨s0, g1⟩ r h
  unfold impl_Systemhas at h
  show FnSound Try.prog 117 [.agg [.int .i64 s0.fSize, .sl (List.map I s0.fPlus), .sl (List.map I s0.fTimes), .sl (List.map AV.bool s0.fBelow)], .int .i64 g1] (.bool r) []
  refine FnSound.body0 tiok (fn := Try.f117) (code := B117) (by kernel_rfl) (by kernel_rfl) (by kernel_rfl) (by kernel_rfl) (nt := 10) (by kernel_rfl) (by kernel_rfl) (T := [(0, .agg [.int .i64 s0.fSize, .sl (List.map I s0.fPlus), .sl (List.map I s0.fTimes), .sl (List.map AV.bool s0.fBelow)]), (1, .int .i64 g1)]) (O := []) (by kernel_rfl) (by kernel_rfl) (fun c hc => ?_)
  refine Wp.seqN (by kernel_rfl) ?_
  refine Wp.reg tiok mix hc (by kernel_rfl) (ah := none) (rs := [some (.new 1), some (.no)]) (kt := [1, 2]) (ko := [1]) (T' := [(1, .int .i64 g1), (2, .ra 1 0)]) (O' := [(1, .box [.int .i64 s0.fSize, .sl (List.map I s0.fPlus), .sl (List.map I s0.fTimes), .sl (List.map AV.bool s0.fBelow)])]) (by kernel_rfl) trivial (by kernel_rfl) (by kernel_rfl) ?_
  refine seqQ_norm ?_
  refine Wp.seqN (by kernel_rfl) ?_
  obtain ⟨r_1_4, hr_1_4, h⟩ := bsome h
  refine Wp.reg tiok mix hc (by kernel_rfl) (ah := none) (rs := [some (.no), some (.no), some (.no), some (.no), some (.call (.bool r_1_4) [] 1), some (.no)]) (kt := [4]) (ko := []) (T' := [(4, .bool r_1_4)]) (O' := []) (by kernel_rfl) (And.intro (impl_within_s _ _ hr_1_4) (And.intro bod_64 (And.intro (Or.inl rfl : ([] : List Nat) = [] ∨ noSh (.bool r_1_4) = true) trivial))) (by kernel_rfl) (by kernel_rfl) ?_
  refine seqQ_norm ?_
  refine Wp.retN (by kernel_rfl) ?_
  obtain rfl := Option.some.inj h
  exact RetQ.ret (fl := [true]) (by kernel_rfl)
def impl_isTypeOf_F1 (c : Ctx) : (Unit) ⊕ (Bool) → Exit → AState → Prop
  | .inl _ => Into c (.exit 0) (mkS [] [])
  | .inr r => RetE TIx Try.f102 [] (.bool r)
def impl_isTypeOf_l0 (p : GSystem × (List Int) × Int) : Option ((Unit) ⊕ (Bool)) :=
  match p with
  | (s0, ty1, w_6) =>
    if (decide (w_6 < (ty1.length : Int))) = true then
      (idx ty1 w_6) >>= fun e_5_0 =>
      (impl_shape e_5_0) >>= fun (r_6_1_0, r_6_1_1) =>
      (
        if (r_6_1_0 == 3) = true then
          (impl_Systemhas (s0, r_6_1_1)) >>= fun r_7_9 =>
          some ((!r_7_9))
        else
          if (r_6_1_0 == 4) = true then
            (impl_Systemhas (s0, r_6_1_1)) >>= fun r_7_9 =>
            some ((!r_7_9))
          else
            some (false)
      ) >>= fun v_8 =>
      if v_8 = true then
        some (.inr false)
      else
        impl_isTypeOf_l0 (s0, ty1, (wr (w_6 + 1)))
    else
      some (.inl ())
  partial_fixpoint
def M_impl_isTypeOf_l0 (p : GSystem × (List Int) × Int) (fl : (Unit) ⊕ (Bool)) : Prop :=
  match p with
  | (s0, ty1, w_6) => ∀ c : Ctx, c.nt = 36 → WpL Try.prog c (cl (cl (cr (cl (cr (cr B102)))))) (impl_isTypeOf_F1 c fl) (mkS [(2, .ra 1 0), (12, .sl (List.map I ty1)), (13, .int .i64 (ty1.length : Int)), (14, .int .i64 w_6)] [(1, .box [.int .i64 s0.fSize, .sl (List.map I s0.fPlus), .sl (List.map I s0.fTimes), .sl (List.map AV.bool s0.fBelow)])])
theorem impl_isTypeOf_l0_s : ∀ p r, impl_isTypeOf_l0 p = some r → M_impl_isTypeOf_l0 p r := by
  refine impl_isTypeOf_l0.partial_correctness M_impl_isTypeOf_l0 ?_
  rintro impl_isTypeOf_l0_f impl_isTypeOf_l0_ih ⟨s0, ty1, w_6⟩ r h
  intro c hc
  show WpL Try.prog c (cl (cl (cr (cl (cr (cr B102)))))) (impl_isTypeOf_F1 c r) (mkS [(2, .ra 1 0), (12, .sl (List.map I ty1)), (13, .int .i64 (ty1.length : Int)), (14, .int .i64 w_6)] [(1, .box [.int .i64 s0.fSize, .sl (List.map I s0.fPlus), .sl (List.map I s0.fTimes), .sl (List.map AV.bool s0.fBelow)])])
  refine WpL.step ?_
  refine Wp.seqN (by kernel_rfl) ?_
  refine Wp.reg tiok mix hc (by kernel_rfl) (ah := none) (rs := [some (.no)]) (kt := [2, 12, 13, 14, 15]) (ko := [1]) (T' := [(2, .ra 1 0), (12, .sl (List.map I ty1)), (13, .int .i64 (ty1.length : Int)), (14, .int .i64 w_6), (15, .bool (decide (w_6 < (ty1.length : Int))))]) (O' := [(1, .box [.int .i64 s0.fSize, .sl (List.map I s0.fPlus), .sl (List.map I s0.fTimes), .sl (List.map AV.bool s0.fBelow)])]) (by kernel_rfl) trivial (by kernel_rfl) (by kernel_rfl) ?_
  refine seqQ_norm ?_
  refine Wp.seqN (by kernel_rfl) ?_
  rcases itesome h with ⟨hb_7, h⟩ | ⟨hb_7, h⟩
  · refine Wp.condT (b := (decide (w_6 < (ty1.length : Int)))) (by kernel_rfl) (by kernel_rfl) hb_7 ?_
    refine Wp.skipN (by kernel_rfl) ?_
    refine seqQ_norm ?_
    refine Wp.seqN (by kernel_rfl) ?_
    refine Wp.blockN (i := 1) (by kernel_rfl) ?_
    refine Wp.seqN (by kernel_rfl) ?_
    obtain ⟨e_5_0, hi_5_0, h⟩ := bsome h
    refine Wp.reg tiok mix hc (by kernel_rfl) (ah := none) (rs := [some (.el (.int .i64 e_5_0)), some (.no), some (.no)]) (kt := [2, 6, 12, 13, 14]) (ko := [1]) (T' := [(2, .ra 1 0), (6, .int .i64 e_5_0), (12, .sl (List.map I ty1)), (13, .int .i64 (ty1.length : Int)), (14, .int .i64 w_6)]) (O' := [(1, .box [.int .i64 s0.fSize, .sl (List.map I s0.fPlus), .sl (List.map I s0.fTimes), .sl (List.map AV.bool s0.fBelow)])]) (by kernel_rfl) (And.intro (idx_sl (enc := I) (x := .int .i64 e_5_0) hi_5_0 (eq_I e_5_0)) trivial) (by kernel_rfl) (by kernel_rfl) ?_
    refine seqQ_norm ?_
    refine Wp.seqN (by kernel_rfl) ?_
    obtain ⟨⟨r_6_1_0, r_6_1_1⟩, hr_6_1, h⟩ := bsome h
    refine Wp.reg tiok mix hc (by kernel_rfl) (ah := none) (rs := [some (.no), some (.call (.tup [.int .i64 r_6_1_0, .int .i64 r_6_1_1]) [] 1), some (.no), some (.no), some (.no), some (.no), some (.no)]) (kt := [2, 7, 8, 12, 13, 14]) (ko := [1]) (T' := [(2, .ra 1 0), (7, .int .i64 r_6_1_0), (8, .int .i64 r_6_1_1), (12, .sl (List.map I ty1)), (13, .int .i64 (ty1.length : Int)), (14, .int .i64 w_6)]) (O' := [(1, .box [.int .i64 s0.fSize, .sl (List.map I s0.fPlus), .sl (List.map I s0.fTimes), .sl (List.map AV.bool s0.fBelow)])]) (by kernel_rfl) (And.intro (impl_shape_s _ _ hr_6_1) (And.intro bod_103 (And.intro (Or.inl rfl : ([] : List Nat) = [] ∨ noSh (.tup [.int .i64 r_6_1_0, .int .i64 r_6_1_1]) = true) trivial))) (by kernel_rfl) (by kernel_rfl) ?_
    refine seqQ_norm ?_
    refine Wp.seqN (by kernel_rfl) ?_
    obtain ⟨v_8, hj_9, h⟩ := bsome h
    refine Wp.into (x := .normal) (mkS [(2, .ra 1 0), (12, .sl (List.map I ty1)), (13, .int .i64 (ty1.length : Int)), (14, .int .i64 w_6), (34, .bool v_8)] [(1, .box [.int .i64 s0.fSize, .sl (List.map I s0.fPlus), .sl (List.map I s0.fTimes), .sl (List.map AV.bool s0.fBelow)])]) ?_ ?_
    · replace h := hj_9
      rcases itesome h with ⟨hb_7_0, h⟩ | ⟨hb_7_0, h⟩
      · obtain ⟨r_7_9, hr_7_9, h⟩ := bsome h
        refine Wp.reg tiok mix hc (by kernel_rfl) (ah := none) (rs := [some (.no), some (.no), some (.no), none, none, some (.cond true), some (.no), some (.no), some (.no), some (.call (.bool r_7_9) [] 1), some (.no), some (.cond true)]) (kt := [2, 12, 13, 14, 34]) (ko := [1]) (T' := [(2, .ra 1 0), (12, .sl (List.map I ty1)), (13, .int .i64 (ty1.length : Int)), (14, .int .i64 w_6), (34, .bool (!r_7_9))]) (O' := [(1, .box [.int .i64 s0.fSize, .sl (List.map I s0.fPlus), .sl (List.map I s0.fTimes), .sl (List.map AV.bool s0.fBelow)])]) (by kernel_rfl) (And.intro (neF hb_7_0 : (r_6_1_0 == 3) ≠ false) (And.intro (neF hb_7_0 : (r_6_1_0 == 3) ≠ false) (And.intro hb_7_0 (And.intro (rfl : true = true) (And.intro (rfl : true = true) (And.intro (rfl : true = true) (And.intro (impl_Systemhas_s _ _ hr_7_9) (And.intro bod_117 (And.intro (Or.inl rfl : ([] : List Nat) = [] ∨ noSh (.bool r_7_9) = true) (And.intro (rfl : true = true) (And.intro (rfl : true = true) trivial))))))))))) (by kernel_rfl) (by kernel_rfl) ?_
        obtain rfl := Option.some.inj h
        exact Into.mk
      · rcases itesome h with ⟨hb_7_1, h⟩ | ⟨hb_7_1, h⟩
        · obtain ⟨r_7_9, hr_7_9, h⟩ := bsome h
          refine Wp.reg tiok mix hc (by kernel_rfl) (ah := none) (rs := [some (.no), some (.no), some (.no), some (.no), some (.no), some (.cond false), some (.no), some (.no), some (.no), some (.call (.bool r_7_9) [] 1), some (.no), some (.cond true)]) (kt := [2, 12, 13, 14, 34]) (ko := [1]) (T' := [(2, .ra 1 0), (12, .sl (List.map I ty1)), (13, .int .i64 (ty1.length : Int)), (14, .int .i64 w_6), (34, .bool (!r_7_9))]) (O' := [(1, .box [.int .i64 s0.fSize, .sl (List.map I s0.fPlus), .sl (List.map I s0.fTimes), .sl (List.map AV.bool s0.fBelow)])]) (by kernel_rfl) (And.intro hb_7_0 (And.intro hb_7_0 (And.intro hb_7_0 (And.intro hb_7_1 (And.intro hb_7_1 (And.intro hb_7_1 (And.intro (impl_Systemhas_s _ _ hr_7_9) (And.intro bod_117 (And.intro (Or.inl rfl : ([] : List Nat) = [] ∨ noSh (.bool r_7_9) = true) (And.intro hb_7_1 (And.intro hb_7_1 trivial))))))))))) (by kernel_rfl) (by kernel_rfl) ?_
          obtain rfl := Option.some.inj h
          exact Into.mk
        · refine Wp.reg tiok mix hc (by kernel_rfl) (ah := none) (rs := [some (.no), some (.no), some (.no), some (.no), some (.no), some (.cond false), some (.no), none, none, none, none, some (.cond false)]) (kt := [2, 12, 13, 14, 34]) (ko := [1]) (T' := [(2, .ra 1 0), (12, .sl (List.map I ty1)), (13, .int .i64 (ty1.length : Int)), (14, .int .i64 w_6), (34, .bool false)]) (O' := [(1, .box [.int .i64 s0.fSize, .sl (List.map I s0.fPlus), .sl (List.map I s0.fTimes), .sl (List.map AV.bool s0.fBelow)])]) (by kernel_rfl) (And.intro hb_7_0 (And.intro hb_7_0 (And.intro hb_7_0 (And.intro (neT hb_7_1 : (r_6_1_0 == 4) ≠ true) (And.intro (neT hb_7_1 : (r_6_1_0 == 4) ≠ true) (And.intro (neT hb_7_1 : (r_6_1_0 == 4) ≠ true) (And.intro (neT hb_7_1 : (r_6_1_0 == 4) ≠ true) (And.intro hb_7_1 trivial)))))))) (by kernel_rfl) (by kernel_rfl) ?_
          obtain rfl := Option.some.inj h
          exact Into.mk
    · clear hj_9
      refine seqQ_norm ?_
      rcases itesome h with ⟨hb_10, h⟩ | ⟨hb_10, h⟩
      · refine Wp.condT (b := v_8) (by kernel_rfl) (by kernel_rfl) hb_10 ?_
        refine Wp.seqN (by kernel_rfl) ?_
        refine Wp.reg tiok mix hc (by kernel_rfl) (ah := none) (rs := [some (.no)]) (kt := [4]) (ko := []) (T' := [(4, .bool false)]) (O' := []) (by kernel_rfl) trivial (by kernel_rfl) (by kernel_rfl) ?_
        refine seqQ_norm ?_
        refine Wp.retN (by kernel_rfl) ?_
        refine blockQ_ret ?_
        refine seqQ_ret ?_
        refine loopQ_ret ?_
        obtain rfl := Option.some.inj h
        exact RetE.ret (fl := [true]) (by kernel_rfl)
      · refine Wp.condF (b := v_8) (by kernel_rfl) (by kernel_rfl) hb_10 ?_
        refine Wp.skipN (by kernel_rfl) ?_
        refine blockQ_norm ?_
        refine seqQ_norm ?_
        refine Wp.reg tiok mix hc (by kernel_rfl) (ah := none) (rs := [some (.no), some (.no)]) (kt := [2, 12, 13, 14]) (ko := [1]) (T' := [(2, .ra 1 0), (12, .sl (List.map I ty1)), (13, .int .i64 (ty1.length : Int)), (14, .int .i64 (wr (w_6 + 1)))]) (O' := [(1, .box [.int .i64 s0.fSize, .sl (List.map I s0.fPlus), .sl (List.map I s0.fTimes), .sl (List.map AV.bool s0.fBelow)])]) (by kernel_rfl) trivial (by kernel_rfl) (by kernel_rfl) ?_
        refine loopQ_norm ?_
        exact (impl_isTypeOf_l0_ih _ _ h c hc)
  · refine Wp.condF (b := (decide (w_6 < (ty1.length : Int)))) (by kernel_rfl) (by kernel_rfl) hb_7 ?_
    refine Wp.exitN (i := 0) (by kernel_rfl) ?_
    refine seqQ_exit ?_
    refine loopQ_exit ?_
    obtain rfl := Option.some.inj h
    exact Into.view (fun a w hv => SRx.renL [] hv (by kernel_rfl) (by kernel_rfl) (by kernel_rfl))
def impl_isTypeOf (p : GSystem × (List Int)) : Option (Bool) :=
  match p with
  | (s0, ty1) =>
    (impl_isWrittenType ty1) >>= fun r_1_1 =>
    if r_1_1 = true then
      (impl_isTypeOf_l0 (s0, ty1, 0)) >>= fun fl => match fl with
      | .inl () =>
        some true
      | .inr r =>
        some r
    else
      some false
def M_impl_isTypeOf (p : GSystem × (List Int)) (r : Bool) : Prop :=
  match p with
  | (s0, ty1) => FnSound Try.prog 102 [.agg [.int .i64 s0.fSize, .sl (List.map I s0.fPlus), .sl (List.map I s0.fTimes), .sl (List.map AV.bool s0.fBelow)], .sl (List.map I ty1)] (.bool r) []
theorem impl_isTypeOf_s : ∀ p r, impl_isTypeOf p = some r → M_impl_isTypeOf p r := by
  rintro ⟨s0, ty1⟩ r h
  unfold impl_isTypeOf at h
  show FnSound Try.prog 102 [.agg [.int .i64 s0.fSize, .sl (List.map I s0.fPlus), .sl (List.map I s0.fTimes), .sl (List.map AV.bool s0.fBelow)], .sl (List.map I ty1)] (.bool r) []
  refine FnSound.body0 tiok (fn := Try.f102) (code := B102) (by kernel_rfl) (by kernel_rfl) (by kernel_rfl) (by kernel_rfl) (nt := 36) (by kernel_rfl) (by kernel_rfl) (T := [(0, .agg [.int .i64 s0.fSize, .sl (List.map I s0.fPlus), .sl (List.map I s0.fTimes), .sl (List.map AV.bool s0.fBelow)]), (1, .sl (List.map I ty1))]) (O := []) (by kernel_rfl) (by kernel_rfl) (fun c hc => ?_)
  refine Wp.seqN (by kernel_rfl) ?_
  refine Wp.reg tiok mix hc (by kernel_rfl) (ah := none) (rs := [some (.new 1), some (.no)]) (kt := [1, 2]) (ko := [1]) (T' := [(1, .sl (List.map I ty1)), (2, .ra 1 0)]) (O' := [(1, .box [.int .i64 s0.fSize, .sl (List.map I s0.fPlus), .sl (List.map I s0.fTimes), .sl (List.map AV.bool s0.fBelow)])]) (by kernel_rfl) trivial (by kernel_rfl) (by kernel_rfl) ?_
  refine seqQ_norm ?_
  refine Wp.seqN (by kernel_rfl) ?_
  refine Wp.seqN (by kernel_rfl) ?_
  obtain ⟨r_1_1, hr_1_1, h⟩ := bsome h
  refine Wp.reg tiok mix hc (by kernel_rfl) (ah := none) (rs := [some (.no), some (.call (.bool r_1_1) [] 1), some (.no)]) (kt := [1, 2, 11]) (ko := [1]) (T' := [(1, .sl (List.map I ty1)), (2, .ra 1 0), (11, .bool (!r_1_1))]) (O' := [(1, .box [.int .i64 s0.fSize, .sl (List.map I s0.fPlus), .sl (List.map I s0.fTimes), .sl (List.map AV.bool s0.fBelow)])]) (by kernel_rfl) (And.intro (impl_isWrittenType_s _ _ hr_1_1) (And.intro bod_150 (And.intro (Or.inl rfl : ([] : List Nat) = [] ∨ noSh (.bool r_1_1) = true) trivial))) (by kernel_rfl) (by kernel_rfl) ?_
  refine seqQ_norm ?_
  rcases itesome h with ⟨hb_1, h⟩ | ⟨hb_1, h⟩
  · refine Wp.condF (b := (!r_1_1)) (by kernel_rfl) (by kernel_rfl) (nF hb_1) ?_
    refine Wp.skipN (by kernel_rfl) ?_
    refine seqQ_norm ?_
    refine Wp.seqN (by kernel_rfl) ?_
    refine Wp.seqN (by kernel_rfl) ?_
    refine Wp.reg tiok mix hc (by kernel_rfl) (ah := none) (rs := [some (.no), some (.eqv (.no) ⟨[(13, .int .i64 (ty1.length : Int))], [], []⟩), some (.no)]) (kt := [2, 12, 13, 14]) (ko := [1]) (T' := [(2, .ra 1 0), (12, .sl (List.map I ty1)), (13, .int .i64 (ty1.length : Int)), (14, .int .i64 0)]) (O' := [(1, .box [.int .i64 s0.fSize, .sl (List.map I s0.fPlus), .sl (List.map I s0.fTimes), .sl (List.map AV.bool s0.fBelow)])]) (by kernel_rfl) (And.intro (lenT (d := 13) I ty1) trivial) (by kernel_rfl) (by kernel_rfl) ?_
    refine seqQ_norm ?_
    refine Wp.blockN (i := 0) (by kernel_rfl) ?_
    obtain ⟨fl, hl_11, h⟩ := bsome h
    have hL := impl_isTypeOf_l0_s _ _ hl_11 c hc
    refine Wp.loopN (by kernel_rfl) ?_
    rcases fl with ⟨⟩ | r
    · refine WpL.into (e := (.exit 0)) (mkS [] []) hL ?_
      refine blockQ_hit ?_
      refine seqQ_norm ?_
      refine Wp.seqN (by kernel_rfl) ?_
      refine Wp.reg tiok mix hc (by kernel_rfl) (ah := none) (rs := [some (.no)]) (kt := [4]) (ko := []) (T' := [(4, .bool true)]) (O' := []) (by kernel_rfl) trivial (by kernel_rfl) (by kernel_rfl) ?_
      refine seqQ_norm ?_
      refine Wp.retN (by kernel_rfl) ?_
      obtain rfl := Option.some.inj h
      exact RetQ.ret (fl := [true]) (by kernel_rfl)
    · refine WpL.mono hL ?_
      rintro _ _ ⟨rfl, hfin⟩
      refine blockQ_ret ?_
      refine seqQ_ret ?_
      obtain rfl := Option.some.inj h
      exact ⟨.inl rfl, hfin⟩
  · refine Wp.condT (b := (!r_1_1)) (by kernel_rfl) (by kernel_rfl) (nT hb_1) ?_
    refine Wp.seqN (by kernel_rfl) ?_
    refine Wp.reg tiok mix hc (by kernel_rfl) (ah := none) (rs := [some (.no)]) (kt := [4]) (ko := []) (T' := [(4, .bool false)]) (O' := []) (by kernel_rfl) trivial (by kernel_rfl) (by kernel_rfl) ?_
    refine seqQ_norm ?_
    refine Wp.retN (by kernel_rfl) ?_
    refine seqQ_ret ?_
    obtain rfl := Option.some.inj h
    exact RetQ.ret (fl := [true]) (by kernel_rfl)
def impl_Systemplus (p : GSystem × Int × Int) : Option (Int) :=
  match p with
  | (s0, a1, b2) =>
    (idx s0.fPlus (wr ((wr (a1 * s0.fSize)) + b2))) >>= fun e_1_8 =>
    some e_1_8
def M_impl_Systemplus (p : GSystem × Int × Int) (r : Int) : Prop :=
  match p with
  | (s0, a1, b2) => FnSound Try.prog 137 [.agg [.int .i64 s0.fSize, .sl (List.map I s0.fPlus), .sl (List.map I s0.fTimes), .sl (List.map AV.bool s0.fBelow)], .int .i64 a1, .int .i64 b2] (.int .i64 r) []
theorem impl_Systemplus_s : ∀ p r, impl_Systemplus p = some r → M_impl_Systemplus p r := by
  rintro ⟨s0, a1, b2⟩ r h
  unfold impl_Systemplus at h
  show FnSound Try.prog 137 [.agg [.int .i64 s0.fSize, .sl (List.map I s0.fPlus), .sl (List.map I s0.fTimes), .sl (List.map AV.bool s0.fBelow)], .int .i64 a1, .int .i64 b2] (.int .i64 r) []
  refine FnSound.body0 tiok (fn := Try.f137) (code := B137) (by kernel_rfl) (by kernel_rfl) (by kernel_rfl) (by kernel_rfl) (nt := 17) (by kernel_rfl) (by kernel_rfl) (T := [(0, .agg [.int .i64 s0.fSize, .sl (List.map I s0.fPlus), .sl (List.map I s0.fTimes), .sl (List.map AV.bool s0.fBelow)]), (1, .int .i64 a1), (2, .int .i64 b2)]) (O := []) (by kernel_rfl) (by kernel_rfl) (fun c hc => ?_)
  refine Wp.seqN (by kernel_rfl) ?_
  refine Wp.reg tiok mix hc (by kernel_rfl) (ah := none) (rs := [some (.new 1), some (.no)]) (kt := [1, 2, 3]) (ko := [1]) (T' := [(1, .int .i64 a1), (2, .int .i64 b2), (3, .ra 1 0)]) (O' := [(1, .box [.int .i64 s0.fSize, .sl (List.map I s0.fPlus), .sl (List.map I s0.fTimes), .sl (List.map AV.bool s0.fBelow)])]) (by kernel_rfl) trivial (by kernel_rfl) (by kernel_rfl) ?_
  refine seqQ_norm ?_
  refine Wp.seqN (by kernel_rfl) ?_
  obtain ⟨e_1_8, hi_1_8, h⟩ := bsome h
  refine Wp.reg tiok mix hc (by kernel_rfl) (ah := none) (rs := [some (.no), some (.no), some (.no), some (.no), some (.no), some (.no), some (.no), some (.no), some (.el (.int .i64 e_1_8)), some (.no), some (.no)]) (kt := [6]) (ko := []) (T' := [(6, .int .i64 e_1_8)]) (O' := []) (by kernel_rfl) (And.intro (idx_sl (enc := I) (x := .int .i64 e_1_8) hi_1_8 (eq_I e_1_8)) trivial) (by kernel_rfl) (by kernel_rfl) ?_
  refine seqQ_norm ?_
  refine Wp.retN (by kernel_rfl) ?_
  obtain rfl := Option.some.inj h
  exact RetQ.ret (fl := [true]) (by kernel_rfl)
def impl_Systemtimes (p : GSystem × Int × Int) : Option (Int) :=
  match p with
  | (s0, a1, b2) =>
    (idx s0.fTimes (wr ((wr (a1 * s0.fSize)) + b2))) >>= fun e_1_8 =>
    some e_1_8
def M_impl_Systemtimes (p : GSystem × Int × Int) (r : Int) : Prop :=
  match p with
  | (s0, a1, b2) => FnSound Try.prog 138 [.agg [.int .i64 s0.fSize, .sl (List.map I s0.fPlus), .sl (List.map I s0.fTimes), .sl (List.map AV.bool s0.fBelow)], .int .i64 a1, .int .i64 b2] (.int .i64 r) []
theorem impl_Systemtimes_s : ∀ p r, impl_Systemtimes p = some r → M_impl_Systemtimes p r := by
  rintro ⟨s0, a1, b2⟩ r h
  unfold impl_Systemtimes at h
  show FnSound Try.prog 138 [.agg [.int .i64 s0.fSize, .sl (List.map I s0.fPlus), .sl (List.map I s0.fTimes), .sl (List.map AV.bool s0.fBelow)], .int .i64 a1, .int .i64 b2] (.int .i64 r) []
  refine FnSound.body0 tiok (fn := Try.f138) (code := B138) (by kernel_rfl) (by kernel_rfl) (by kernel_rfl) (by kernel_rfl) (nt := 17) (by kernel_rfl) (by kernel_rfl) (T := [(0, .agg [.int .i64 s0.fSize, .sl (List.map I s0.fPlus), .sl (List.map I s0.fTimes), .sl (List.map AV.bool s0.fBelow)]), (1, .int .i64 a1), (2, .int .i64 b2)]) (O := []) (by kernel_rfl) (by kernel_rfl) (fun c hc => ?_)
  refine Wp.seqN (by kernel_rfl) ?_
  refine Wp.reg tiok mix hc (by kernel_rfl) (ah := none) (rs := [some (.new 1), some (.no)]) (kt := [1, 2, 3]) (ko := [1]) (T' := [(1, .int .i64 a1), (2, .int .i64 b2), (3, .ra 1 0)]) (O' := [(1, .box [.int .i64 s0.fSize, .sl (List.map I s0.fPlus), .sl (List.map I s0.fTimes), .sl (List.map AV.bool s0.fBelow)])]) (by kernel_rfl) trivial (by kernel_rfl) (by kernel_rfl) ?_
  refine seqQ_norm ?_
  refine Wp.seqN (by kernel_rfl) ?_
  obtain ⟨e_1_8, hi_1_8, h⟩ := bsome h
  refine Wp.reg tiok mix hc (by kernel_rfl) (ah := none) (rs := [some (.no), some (.no), some (.no), some (.no), some (.no), some (.no), some (.no), some (.no), some (.el (.int .i64 e_1_8)), some (.no), some (.no)]) (kt := [6]) (ko := []) (T' := [(6, .int .i64 e_1_8)]) (O' := []) (by kernel_rfl) (And.intro (idx_sl (enc := I) (x := .int .i64 e_1_8) hi_1_8 (eq_I e_1_8)) trivial) (by kernel_rfl) (by kernel_rfl) ?_
  refine seqQ_norm ?_
  refine Wp.retN (by kernel_rfl) ?_
  obtain rfl := Option.some.inj h
  exact RetQ.ret (fl := [true]) (by kernel_rfl)
def impl_Systembelow (p : GSystem × Int × Int) : Option (Bool) :=
  match p with
  | (s0, a1, b2) =>
    (idx s0.fBelow (wr ((wr (a1 * s0.fSize)) + b2))) >>= fun e_1_8 =>
    some e_1_8
def M_impl_Systembelow (p : GSystem × Int × Int) (r : Bool) : Prop :=
  match p with
  | (s0, a1, b2) => FnSound Try.prog 139 [.agg [.int .i64 s0.fSize, .sl (List.map I s0.fPlus), .sl (List.map I s0.fTimes), .sl (List.map AV.bool s0.fBelow)], .int .i64 a1, .int .i64 b2] (.bool r) []
theorem impl_Systembelow_s : ∀ p r, impl_Systembelow p = some r → M_impl_Systembelow p r := by
  rintro ⟨s0, a1, b2⟩ r h
  unfold impl_Systembelow at h
  show FnSound Try.prog 139 [.agg [.int .i64 s0.fSize, .sl (List.map I s0.fPlus), .sl (List.map I s0.fTimes), .sl (List.map AV.bool s0.fBelow)], .int .i64 a1, .int .i64 b2] (.bool r) []
  refine FnSound.body0 tiok (fn := Try.f139) (code := B139) (by kernel_rfl) (by kernel_rfl) (by kernel_rfl) (by kernel_rfl) (nt := 17) (by kernel_rfl) (by kernel_rfl) (T := [(0, .agg [.int .i64 s0.fSize, .sl (List.map I s0.fPlus), .sl (List.map I s0.fTimes), .sl (List.map AV.bool s0.fBelow)]), (1, .int .i64 a1), (2, .int .i64 b2)]) (O := []) (by kernel_rfl) (by kernel_rfl) (fun c hc => ?_)
  refine Wp.seqN (by kernel_rfl) ?_
  refine Wp.reg tiok mix hc (by kernel_rfl) (ah := none) (rs := [some (.new 1), some (.no)]) (kt := [1, 2, 3]) (ko := [1]) (T' := [(1, .int .i64 a1), (2, .int .i64 b2), (3, .ra 1 0)]) (O' := [(1, .box [.int .i64 s0.fSize, .sl (List.map I s0.fPlus), .sl (List.map I s0.fTimes), .sl (List.map AV.bool s0.fBelow)])]) (by kernel_rfl) trivial (by kernel_rfl) (by kernel_rfl) ?_
  refine seqQ_norm ?_
  refine Wp.seqN (by kernel_rfl) ?_
  obtain ⟨e_1_8, hi_1_8, h⟩ := bsome h
  refine Wp.reg tiok mix hc (by kernel_rfl) (ah := none) (rs := [some (.no), some (.no), some (.no), some (.no), some (.no), some (.no), some (.no), some (.no), some (.el (.bool e_1_8)), some (.no), some (.no)]) (kt := [6]) (ko := []) (T' := [(6, .bool e_1_8)]) (O' := []) (by kernel_rfl) (And.intro (idx_sl (enc := AV.bool) (x := .bool e_1_8) hi_1_8 (eq_B e_1_8)) trivial) (by kernel_rfl) (by kernel_rfl) ?_
  refine seqQ_norm ?_
  refine Wp.retN (by kernel_rfl) ?_
  obtain rfl := Option.some.inj h
  exact RetQ.ret (fl := [true]) (by kernel_rfl)
def impl_Systemjoin_F1 (c : Ctx) (s0 : GSystem) (a1 : Int) (b2 : Int) (g_17 : Int) : Bool → Exit → AState → Prop
  | least_30 => Into c (.exit 2) (mkS [(1, .int .i64 a1), (2, .int .i64 b2), (3, .ra 1 0), (7, .int .i64 g_17), (8, .bool least_30)] [(1, .box [.int .i64 s0.fSize, .sl (List.map I s0.fPlus), .sl (List.map I s0.fTimes), .sl (List.map AV.bool s0.fBelow)])])
def impl_Systemjoin_l0 (p : GSystem × Int × Int × Int × Bool × Int) : Option (Bool) :=
  match p with
  | (s0, a1, b2, g_17, least_25, h_26) =>
    if (decide (h_26 < s0.fSize)) = true then
      (
        if least_25 = true then
          (impl_Systembelow (s0, a1, h_26)) >>= fun r_9_5 =>
          if r_9_5 = true then
            (impl_Systembelow (s0, b2, h_26)) >>= fun r_9_11 =>
            if r_9_11 = true then
              (impl_Systembelow (s0, g_17, h_26)) >>= fun r_9_18 =>
              some (r_9_18)
            else
              some (true)
          else
            some (true)
        else
          some (false)
      ) >>= fun least_28 =>
      impl_Systemjoin_l0 (s0, a1, b2, g_17, least_28, (wr (h_26 + 1)))
    else
      some (least_25)
  partial_fixpoint
def M_impl_Systemjoin_l0 (p : GSystem × Int × Int × Int × Bool × Int) (fl : Bool) : Prop :=
  match p with
  | (s0, a1, b2, g_17, least_25, h_26) => ∀ c : Ctx, c.nt = 57 → WpL Try.prog c (cl (cl (cr (cl (cr (cr (cl (cl (cr (cl (cl (cr (cl (cr B140)))))))))))))) (impl_Systemjoin_F1 c s0 a1 b2 g_17 fl) (mkS [(1, .int .i64 a1), (2, .int .i64 b2), (3, .ra 1 0), (7, .int .i64 g_17), (8, .bool least_25), (9, .int .i64 h_26)] [(1, .box [.int .i64 s0.fSize, .sl (List.map I s0.fPlus), .sl (List.map I s0.fTimes), .sl (List.map AV.bool s0.fBelow)])])
theorem impl_Systemjoin_l0_s : ∀ p r, impl_Systemjoin_l0 p = some r → M_impl_Systemjoin_l0 p r := by
  refine impl_Systemjoin_l0.partial_correctness M_impl_Systemjoin_l0 ?_
  rintro impl_Systemjoin_l0_f impl_Systemjoin_l0_ih ⟨s0, a1, b2, g_17, least_25, h_26⟩ r h
  intro c hc
  show WpL Try.prog c (cl (cl (cr (cl (cr (cr (cl (cl (cr (cl (cl (cr (cl (cr B140)))))))))))))) (impl_Systemjoin_F1 c s0 a1 b2 g_17 r) (mkS [(1, .int .i64 a1), (2, .int .i64 b2), (3, .ra 1 0), (7, .int .i64 g_17), (8, .bool least_25), (9, .int .i64 h_26)] [(1, .box [.int .i64 s0.fSize, .sl (List.map I s0.fPlus), .sl (List.map I s0.fTimes), .sl (List.map AV.bool s0.fBelow)])])
  refine WpL.step ?_
  refine Wp.seqN (by kernel_rfl) ?_
  refine Wp.seqN (by kernel_rfl) ?_
  refine Wp.reg tiok mix hc (by kernel_rfl) (ah := none) (rs := [some (.no), some (.no), some (.no), some (.no)]) (kt := [1, 2, 3, 7, 8, 9, 31]) (ko := [1]) (T' := [(1, .int .i64 a1), (2, .int .i64 b2), (3, .ra 1 0), (7, .int .i64 g_17), (8, .bool least_25), (9, .int .i64 h_26), (31, .bool (decide (h_26 < s0.fSize)))]) (O' := [(1, .box [.int .i64 s0.fSize, .sl (List.map I s0.fPlus), .sl (List.map I s0.fTimes), .sl (List.map AV.bool s0.fBelow)])]) (by kernel_rfl) trivial (by kernel_rfl) (by kernel_rfl) ?_
  refine seqQ_norm ?_
  rcases itesome h with ⟨hb_27, h⟩ | ⟨hb_27, h⟩
  · refine Wp.condT (b := (decide (h_26 < s0.fSize))) (by kernel_rfl) (by kernel_rfl) hb_27 ?_
    refine Wp.skipN (by kernel_rfl) ?_
    refine seqQ_norm ?_
    refine Wp.seqN (by kernel_rfl) ?_
    refine Wp.blockN (i := 3) (by kernel_rfl) ?_
    obtain ⟨least_28, hj_29, h⟩ := bsome h
    refine Wp.into (x := .normal) (mkS [(1, .int .i64 a1), (2, .int .i64 b2), (3, .ra 1 0), (7, .int .i64 g_17), (8, .bool least_28), (9, .int .i64 h_26)] [(1, .box [.int .i64 s0.fSize, .sl (List.map I s0.fPlus), .sl (List.map I s0.fTimes), .sl (List.map AV.bool s0.fBelow)])]) ?_ ?_
    · replace h := hj_29
      rcases itesome h with ⟨hb_9_0, h⟩ | ⟨hb_9_0, h⟩
      · obtain ⟨r_9_5, hr_9_5, h⟩ := bsome h
        rcases itesome h with ⟨hb_9_1, h⟩ | ⟨hb_9_1, h⟩
        · obtain ⟨r_9_11, hr_9_11, h⟩ := bsome h
          rcases itesome h with ⟨hb_9_2, h⟩ | ⟨hb_9_2, h⟩
          · obtain ⟨r_9_18, hr_9_18, h⟩ := bsome h
            refine Wp.reg tiok mix hc (by kernel_rfl) (ah := none) (rs := [some (.no), some (.no), some (.no), some (.no), some (.no), some (.call (.bool r_9_5) [] 1), some (.no), some (.no), some (.no), some (.no), some (.no), some (.call (.bool r_9_11) [] 1), some (.no), some (.cond false), some (.no), some (.no), some (.no), some (.no), some (.call (.bool r_9_18) [] 1), some (.cond false), some (.cond true), some (.no)]) (kt := [1, 2, 3, 7, 8, 9]) (ko := [1]) (T' := [(1, .int .i64 a1), (2, .int .i64 b2), (3, .ra 1 0), (7, .int .i64 g_17), (8, .bool r_9_18), (9, .int .i64 h_26)]) (O' := [(1, .box [.int .i64 s0.fSize, .sl (List.map I s0.fPlus), .sl (List.map I s0.fTimes), .sl (List.map AV.bool s0.fBelow)])]) (by kernel_rfl) (And.intro hb_9_0 (And.intro hb_9_0 (And.intro hb_9_0 (And.intro hb_9_0 (And.intro (impl_Systembelow_s _ _ hr_9_5) (And.intro bod_139 (And.intro (Or.inl rfl : ([] : List Nat) = [] ∨ noSh (.bool r_9_5) = true) (And.intro hb_9_0 (And.intro hb_9_0 (And.intro (nF hb_9_1) (And.intro (nF hb_9_1) (And.intro (nF hb_9_1) (And.intro (nF hb_9_1) (And.intro (impl_Systembelow_s _ _ hr_9_11) (And.intro bod_139 (And.intro (Or.inl rfl : ([] : List Nat) = [] ∨ noSh (.bool r_9_11) = true) (And.intro (nF hb_9_1) (And.intro hb_9_0 (And.intro (nF hb_9_1) (And.intro hb_9_0 (And.intro (nF hb_9_2) (And.intro (nF hb_9_2) (And.intro (nF hb_9_2) (And.intro (nF hb_9_2) (And.intro (impl_Systembelow_s _ _ hr_9_18) (And.intro bod_139 (And.intro (Or.inl rfl : ([] : List Nat) = [] ∨ noSh (.bool r_9_18) = true) (And.intro hb_9_0 (And.intro (nF hb_9_2) (And.intro hb_9_0 trivial)))))))))))))))))))))))))))))) (by kernel_rfl) (by kernel_rfl) ?_
            obtain rfl := Option.some.inj h
            exact Into.mk
          · refine Wp.reg tiok mix hc (by kernel_rfl) (ah := none) (rs := [some (.no), some (.no), some (.no), some (.no), some (.no), some (.call (.bool r_9_5) [] 1), some (.no), some (.no), some (.no), some (.no), some (.no), some (.call (.bool r_9_11) [] 1), some (.no), some (.cond false), some (.no), none, none, none, none, some (.cond true), some (.cond true), some (.no)]) (kt := [1, 2, 3, 7, 8, 9]) (ko := [1]) (T' := [(1, .int .i64 a1), (2, .int .i64 b2), (3, .ra 1 0), (7, .int .i64 g_17), (8, .bool true), (9, .int .i64 h_26)]) (O' := [(1, .box [.int .i64 s0.fSize, .sl (List.map I s0.fPlus), .sl (List.map I s0.fTimes), .sl (List.map AV.bool s0.fBelow)])]) (by kernel_rfl) (And.intro hb_9_0 (And.intro hb_9_0 (And.intro hb_9_0 (And.intro hb_9_0 (And.intro (impl_Systembelow_s _ _ hr_9_5) (And.intro bod_139 (And.intro (Or.inl rfl : ([] : List Nat) = [] ∨ noSh (.bool r_9_5) = true) (And.intro hb_9_0 (And.intro hb_9_0 (And.intro (nF hb_9_1) (And.intro (nF hb_9_1) (And.intro (nF hb_9_1) (And.intro (nF hb_9_1) (And.intro (impl_Systembelow_s _ _ hr_9_11) (And.intro bod_139 (And.intro (Or.inl rfl : ([] : List Nat) = [] ∨ noSh (.bool r_9_11) = true) (And.intro (nF hb_9_1) (And.intro hb_9_0 (And.intro (nF hb_9_1) (And.intro hb_9_0 (And.intro (neF (nT hb_9_2) : (!r_9_11) ≠ false) (And.intro (neF (nT hb_9_2) : (!r_9_11) ≠ false) (And.intro (neF (nT hb_9_2) : (!r_9_11) ≠ false) (And.intro (neF (nT hb_9_2) : (!r_9_11) ≠ false) (And.intro hb_9_0 (And.intro (nT hb_9_2) (And.intro hb_9_0 trivial))))))))))))))))))))))))))) (by kernel_rfl) (by kernel_rfl) ?_
            obtain rfl := Option.some.inj h
            exact Into.mk
        · refine Wp.reg tiok mix hc (by kernel_rfl) (ah := none) (rs := [some (.no), some (.no), some (.no), some (.no), some (.no), some (.call (.bool r_9_5) [] 1), some (.no), some (.no), none, none, none, none, none, some (.cond true), some (.no), none, none, none, none, some (.cond true), some (.cond true), some (.no)]) (kt := [1, 2, 3, 7, 8, 9]) (ko := [1]) (T' := [(1, .int .i64 a1), (2, .int .i64 b2), (3, .ra 1 0), (7, .int .i64 g_17), (8, .bool true), (9, .int .i64 h_26)]) (O' := [(1, .box [.int .i64 s0.fSize, .sl (List.map I s0.fPlus), .sl (List.map I s0.fTimes), .sl (List.map AV.bool s0.fBelow)])]) (by kernel_rfl) (And.intro hb_9_0 (And.intro hb_9_0 (And.intro hb_9_0 (And.intro hb_9_0 (And.intro (impl_Systembelow_s _ _ hr_9_5) (And.intro bod_139 (And.intro (Or.inl rfl : ([] : List Nat) = [] ∨ noSh (.bool r_9_5) = true) (And.intro hb_9_0 (And.intro hb_9_0 (And.intro (neF (nT hb_9_1) : (!r_9_5) ≠ false) (And.intro (neF (nT hb_9_1) : (!r_9_5) ≠ false) (And.intro (neF (nT hb_9_1) : (!r_9_5) ≠ false) (And.intro (neF (nT hb_9_1) : (!r_9_5) ≠ false) (And.intro (neF (nT hb_9_1) : (!r_9_5) ≠ false) (And.intro hb_9_0 (And.intro (nT hb_9_1) (And.intro hb_9_0 (And.intro (neF (rfl : true = true) : true ≠ false) (And.intro (neF (rfl : true = true) : true ≠ false) (And.intro (neF (rfl : true = true) : true ≠ false) (And.intro (neF (rfl : true = true) : true ≠ false) (And.intro hb_9_0 (And.intro (rfl : true = true) (And.intro hb_9_0 trivial)))))))))))))))))))))))) (by kernel_rfl) (by kernel_rfl) ?_
          obtain rfl := Option.some.inj h
          exact Into.mk
      · refine Wp.reg tiok mix hc (by kernel_rfl) (ah := none) (rs := [some (.no), some (.no), none, none, none, none, none, none, none, none, none, none, none, none, none, none, none, none, none, none, some (.cond false), some (.no)]) (kt := [1, 2, 3, 7, 8, 9]) (ko := [1]) (T' := [(1, .int .i64 a1), (2, .int .i64 b2), (3, .ra 1 0), (7, .int .i64 g_17), (8, .bool false), (9, .int .i64 h_26)]) (O' := [(1, .box [.int .i64 s0.fSize, .sl (List.map I s0.fPlus), .sl (List.map I s0.fTimes), .sl (List.map AV.bool s0.fBelow)])]) (by kernel_rfl) (And.intro (neT hb_9_0 : least_25 ≠ true) (And.intro (neT hb_9_0 : least_25 ≠ true) (And.intro (neT hb_9_0 : least_25 ≠ true) (And.intro (neT hb_9_0 : least_25 ≠ true) (And.intro (neT hb_9_0 : least_25 ≠ true) (And.intro (neT hb_9_0 : least_25 ≠ true) (And.intro (neT hb_9_0 : least_25 ≠ true) (And.intro (neT hb_9_0 : least_25 ≠ true) (And.intro (neT hb_9_0 : least_25 ≠ true) (And.intro hb_9_0 trivial)))))))))) (by kernel_rfl) (by kernel_rfl) ?_
        obtain rfl := Option.some.inj h
        exact Into.mk
    · clear hj_29
      refine blockQ_norm ?_
      refine seqQ_norm ?_
      refine Wp.reg tiok mix hc (by kernel_rfl) (ah := none) (rs := [some (.no), some (.no), some (.no)]) (kt := [1, 2, 3, 7, 8, 9]) (ko := [1]) (T' := [(1, .int .i64 a1), (2, .int .i64 b2), (3, .ra 1 0), (7, .int .i64 g_17), (8, .bool least_28), (9, .int .i64 (wr (h_26 + 1)))]) (O' := [(1, .box [.int .i64 s0.fSize, .sl (List.map I s0.fPlus), .sl (List.map I s0.fTimes), .sl (List.map AV.bool s0.fBelow)])]) (by kernel_rfl) trivial (by kernel_rfl) (by kernel_rfl) ?_
      refine loopQ_norm ?_
      exact (impl_Systemjoin_l0_ih _ _ h c hc)
  · refine Wp.condF (b := (decide (h_26 < s0.fSize))) (by kernel_rfl) (by kernel_rfl) hb_27 ?_
    refine Wp.exitN (i := 2) (by kernel_rfl) ?_
    refine seqQ_exit ?_
    refine loopQ_exit ?_
    obtain rfl := Option.some.inj h
    exact Into.view (fun a w hv => SRx.renL [] hv (by kernel_rfl) (by kernel_rfl) (by kernel_rfl))
def impl_Systemjoin_F2 (c : Ctx) (s0 : GSystem) (a1 : Int) (b2 : Int) (g_17 : Int) : (Unit) ⊕ (Int) → Exit → AState → Prop
  | .inl _ => Into c .normal (mkS [(1, .int .i64 a1), (2, .int .i64 b2), (3, .ra 1 0), (7, .int .i64 g_17)] [(1, .box [.int .i64 s0.fSize, .sl (List.map I s0.fPlus), .sl (List.map I s0.fTimes), .sl (List.map AV.bool s0.fBelow)])])
  | .inr r => RetE TIx Try.f140 [] (.int .i64 r)
def impl_Systemjoin_F3 (c : Ctx) : (Unit) ⊕ (Int) → Exit → AState → Prop
  | .inl _ => Into c (.exit 0) (mkS [] [])
  | .inr r => RetE TIx Try.f140 [] (.int .i64 r)
end Go.Am
