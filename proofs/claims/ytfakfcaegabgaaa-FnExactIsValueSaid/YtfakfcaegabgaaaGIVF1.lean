/- Functions of the program as pure functions, and that it computes them. Printed by a program of mine (gen.py). -/
import Derived.Test.YtfakfcaegabgaaaGIVF0
set_option linter.unusedVariables false
set_option linter.unusedSimpArgs false
set_option maxRecDepth 100000
namespace Go.Am
open Go Go.Proofs
def spec_l1Join_l0 (p : GSystem × Int × Int × Int × Bool × Int) : Option (Bool) :=
  match p with
  | (s0, a1, b2, g_19, ok_28, h_29) =>
    (
      if (decide (h_29 < s0.fSize)) = true then
        some (ok_28)
      else
        some (false)
    ) >>= fun v_30 =>
    if v_30 = true then
      (
        (spec_l1Le (s0, a1, h_29)) >>= fun r_8_3 =>
        if r_8_3 = true then
          (spec_l1Le (s0, b2, h_29)) >>= fun r_8_9 =>
          if r_8_9 = true then
            (spec_l1Le (s0, g_19, h_29)) >>= fun r_8_16 =>
            some (r_8_16)
          else
            some (true)
        else
          some (true)
      ) >>= fun ok_33 =>
      spec_l1Join_l0 (s0, a1, b2, g_19, ok_33, (wr (h_29 + 1)))
    else
      some (ok_28)
  partial_fixpoint
def M_spec_l1Join_l0 (p : GSystem × Int × Int × Int × Bool × Int) (fl : Bool) : Prop :=
  match p with
  | (s0, a1, b2, g_19, ok_28, h_29) => ∀ c : Ctx, c.nt = 55 → WpL Try.prog c (cl (cl (cr (cl (cr (cl (cl (cr (cl (cl (cr (cl (cr B166))))))))))))) (spec_l1Join_F1 c s0 a1 b2 g_19 fl) (mkS [(1, .int .i64 a1), (2, .int .i64 b2), (3, .ra 1 0), (7, .int .i64 g_19), (8, .bool ok_28), (9, .int .i64 h_29)] [(1, .box [.int .i64 s0.fSize, .sl (List.map I s0.fPlus), .sl (List.map I s0.fTimes), .sl (List.map AV.bool s0.fBelow)])])
theorem spec_l1Join_l0_s : ∀ p r, spec_l1Join_l0 p = some r → M_spec_l1Join_l0 p r := by
  refine spec_l1Join_l0.partial_correctness M_spec_l1Join_l0 ?_
  rintro spec_l1Join_l0_f spec_l1Join_l0_ih ⟨s0, a1, b2, g_19, ok_28, h_29⟩ r h
  intro c hc
  show WpL Try.prog c (cl (cl (cr (cl (cr (cl (cl (cr (cl (cl (cr (cl (cr B166))))))))))))) (spec_l1Join_F1 c s0 a1 b2 g_19 r) (mkS [(1, .int .i64 a1), (2, .int .i64 b2), (3, .ra 1 0), (7, .int .i64 g_19), (8, .bool ok_28), (9, .int .i64 h_29)] [(1, .box [.int .i64 s0.fSize, .sl (List.map I s0.fPlus), .sl (List.map I s0.fTimes), .sl (List.map AV.bool s0.fBelow)])])
  refine WpL.step ?_
  refine Wp.seqN (by kernel_rfl) ?_
  refine Wp.seqN (by kernel_rfl) ?_
  obtain ⟨v_30, hj_31, h⟩ := bsome h
  refine Wp.into (x := .normal) (mkS [(1, .int .i64 a1), (2, .int .i64 b2), (3, .ra 1 0), (7, .int .i64 g_19), (8, .bool ok_28), (9, .int .i64 h_29), (32, .bool v_30)] [(1, .box [.int .i64 s0.fSize, .sl (List.map I s0.fPlus), .sl (List.map I s0.fTimes), .sl (List.map AV.bool s0.fBelow)])]) ?_ ?_
  · replace h := hj_31
    rcases itesome h with ⟨hb_6_0, h⟩ | ⟨hb_6_0, h⟩
    · refine Wp.reg tiok mix hc (by kernel_rfl) (ah := none) (rs := [some (.no), some (.no), some (.no), some (.no), some (.no), some (.no), some (.cond true)]) (kt := [1, 2, 3, 7, 8, 9, 32]) (ko := [1]) (T' := [(1, .int .i64 a1), (2, .int .i64 b2), (3, .ra 1 0), (7, .int .i64 g_19), (8, .bool ok_28), (9, .int .i64 h_29), (32, .bool ok_28)]) (O' := [(1, .box [.int .i64 s0.fSize, .sl (List.map I s0.fPlus), .sl (List.map I s0.fTimes), .sl (List.map AV.bool s0.fBelow)])]) (by kernel_rfl) (And.intro hb_6_0 (And.intro hb_6_0 trivial)) (by kernel_rfl) (by kernel_rfl) ?_
      obtain rfl := Option.some.inj h
      exact Into.mk
    · refine Wp.reg tiok mix hc (by kernel_rfl) (ah := none) (rs := [some (.no), some (.no), some (.no), some (.no), some (.no), none, some (.cond false)]) (kt := [1, 2, 3, 7, 8, 9, 32]) (ko := [1]) (T' := [(1, .int .i64 a1), (2, .int .i64 b2), (3, .ra 1 0), (7, .int .i64 g_19), (8, .bool ok_28), (9, .int .i64 h_29), (32, .bool false)]) (O' := [(1, .box [.int .i64 s0.fSize, .sl (List.map I s0.fPlus), .sl (List.map I s0.fTimes), .sl (List.map AV.bool s0.fBelow)])]) (by kernel_rfl) (And.intro (neT hb_6_0 : (decide (h_29 < s0.fSize)) ≠ true) (And.intro hb_6_0 trivial)) (by kernel_rfl) (by kernel_rfl) ?_
      obtain rfl := Option.some.inj h
      exact Into.mk
  · clear hj_31
    refine seqQ_norm ?_
    rcases itesome h with ⟨hb_32, h⟩ | ⟨hb_32, h⟩
    · refine Wp.condT (b := v_30) (by kernel_rfl) (by kernel_rfl) hb_32 ?_
      refine Wp.skipN (by kernel_rfl) ?_
      refine seqQ_norm ?_
      refine Wp.seqN (by kernel_rfl) ?_
      refine Wp.blockN (i := 3) (by kernel_rfl) ?_
      obtain ⟨ok_33, hj_34, h⟩ := bsome h
      refine Wp.into (x := .normal) (mkS [(1, .int .i64 a1), (2, .int .i64 b2), (3, .ra 1 0), (7, .int .i64 g_19), (8, .bool ok_33), (9, .int .i64 h_29)] [(1, .box [.int .i64 s0.fSize, .sl (List.map I s0.fPlus), .sl (List.map I s0.fTimes), .sl (List.map AV.bool s0.fBelow)])]) ?_ ?_
      · replace h := hj_34
        obtain ⟨r_8_3, hr_8_3, h⟩ := bsome h
        rcases itesome h with ⟨hb_8_0, h⟩ | ⟨hb_8_0, h⟩
        · obtain ⟨r_8_9, hr_8_9, h⟩ := bsome h
          rcases itesome h with ⟨hb_8_1, h⟩ | ⟨hb_8_1, h⟩
          · obtain ⟨r_8_16, hr_8_16, h⟩ := bsome h
            refine Wp.reg tiok mix hc (by kernel_rfl) (ah := none) (rs := [some (.no), some (.no), some (.no), some (.call (.bool r_8_3) [] 1), some (.no), some (.no), some (.no), some (.no), some (.no), some (.call (.bool r_8_9) [] 1), some (.no), some (.cond false), some (.no), some (.no), some (.no), some (.no), some (.call (.bool r_8_16) [] 1), some (.cond false), some (.no)]) (kt := [1, 2, 3, 7, 8, 9]) (ko := [1]) (T' := [(1, .int .i64 a1), (2, .int .i64 b2), (3, .ra 1 0), (7, .int .i64 g_19), (8, .bool r_8_16), (9, .int .i64 h_29)]) (O' := [(1, .box [.int .i64 s0.fSize, .sl (List.map I s0.fPlus), .sl (List.map I s0.fTimes), .sl (List.map AV.bool s0.fBelow)])]) (by kernel_rfl) (And.intro (spec_l1Le_s _ _ hr_8_3) (And.intro bod_155 (And.intro (Or.inl rfl : ([] : List Nat) = [] ∨ noSh (.bool r_8_3) = true) (And.intro (nF hb_8_0) (And.intro (nF hb_8_0) (And.intro (nF hb_8_0) (And.intro (nF hb_8_0) (And.intro (spec_l1Le_s _ _ hr_8_9) (And.intro bod_155 (And.intro (Or.inl rfl : ([] : List Nat) = [] ∨ noSh (.bool r_8_9) = true) (And.intro (nF hb_8_0) (And.intro (nF hb_8_0) (And.intro (nF hb_8_1) (And.intro (nF hb_8_1) (And.intro (nF hb_8_1) (And.intro (nF hb_8_1) (And.intro (spec_l1Le_s _ _ hr_8_16) (And.intro bod_155 (And.intro (Or.inl rfl : ([] : List Nat) = [] ∨ noSh (.bool r_8_16) = true) (And.intro (nF hb_8_1) trivial)))))))))))))))))))) (by kernel_rfl) (by kernel_rfl) ?_
            obtain rfl := Option.some.inj h
            exact Into.mk
          · refine Wp.reg tiok mix hc (by kernel_rfl) (ah := none) (rs := [some (.no), some (.no), some (.no), some (.call (.bool r_8_3) [] 1), some (.no), some (.no), some (.no), some (.no), some (.no), some (.call (.bool r_8_9) [] 1), some (.no), some (.cond false), some (.no), none, none, none, none, some (.cond true), some (.no)]) (kt := [1, 2, 3, 7, 8, 9]) (ko := [1]) (T' := [(1, .int .i64 a1), (2, .int .i64 b2), (3, .ra 1 0), (7, .int .i64 g_19), (8, .bool true), (9, .int .i64 h_29)]) (O' := [(1, .box [.int .i64 s0.fSize, .sl (List.map I s0.fPlus), .sl (List.map I s0.fTimes), .sl (List.map AV.bool s0.fBelow)])]) (by kernel_rfl) (And.intro (spec_l1Le_s _ _ hr_8_3) (And.intro bod_155 (And.intro (Or.inl rfl : ([] : List Nat) = [] ∨ noSh (.bool r_8_3) = true) (And.intro (nF hb_8_0) (And.intro (nF hb_8_0) (And.intro (nF hb_8_0) (And.intro (nF hb_8_0) (And.intro (spec_l1Le_s _ _ hr_8_9) (And.intro bod_155 (And.intro (Or.inl rfl : ([] : List Nat) = [] ∨ noSh (.bool r_8_9) = true) (And.intro (nF hb_8_0) (And.intro (nF hb_8_0) (And.intro (neF (nT hb_8_1) : (!r_8_9) ≠ false) (And.intro (neF (nT hb_8_1) : (!r_8_9) ≠ false) (And.intro (neF (nT hb_8_1) : (!r_8_9) ≠ false) (And.intro (neF (nT hb_8_1) : (!r_8_9) ≠ false) (And.intro (nT hb_8_1) trivial))))))))))))))))) (by kernel_rfl) (by kernel_rfl) ?_
            obtain rfl := Option.some.inj h
            exact Into.mk
        · refine Wp.reg tiok mix hc (by kernel_rfl) (ah := none) (rs := [some (.no), some (.no), some (.no), some (.call (.bool r_8_3) [] 1), some (.no), some (.no), none, none, none, none, none, some (.cond true), some (.no), none, none, none, none, some (.cond true), some (.no)]) (kt := [1, 2, 3, 7, 8, 9]) (ko := [1]) (T' := [(1, .int .i64 a1), (2, .int .i64 b2), (3, .ra 1 0), (7, .int .i64 g_19), (8, .bool true), (9, .int .i64 h_29)]) (O' := [(1, .box [.int .i64 s0.fSize, .sl (List.map I s0.fPlus), .sl (List.map I s0.fTimes), .sl (List.map AV.bool s0.fBelow)])]) (by kernel_rfl) (And.intro (spec_l1Le_s _ _ hr_8_3) (And.intro bod_155 (And.intro (Or.inl rfl : ([] : List Nat) = [] ∨ noSh (.bool r_8_3) = true) (And.intro (neF (nT hb_8_0) : (!r_8_3) ≠ false) (And.intro (neF (nT hb_8_0) : (!r_8_3) ≠ false) (And.intro (neF (nT hb_8_0) : (!r_8_3) ≠ false) (And.intro (neF (nT hb_8_0) : (!r_8_3) ≠ false) (And.intro (neF (nT hb_8_0) : (!r_8_3) ≠ false) (And.intro (nT hb_8_0) (And.intro (neF (rfl : true = true) : true ≠ false) (And.intro (neF (rfl : true = true) : true ≠ false) (And.intro (neF (rfl : true = true) : true ≠ false) (And.intro (neF (rfl : true = true) : true ≠ false) (And.intro (rfl : true = true) trivial)))))))))))))) (by kernel_rfl) (by kernel_rfl) ?_
          obtain rfl := Option.some.inj h
          exact Into.mk
      · clear hj_34
        refine blockQ_norm ?_
        refine seqQ_norm ?_
        refine Wp.reg tiok mix hc (by kernel_rfl) (ah := none) (rs := [some (.no), some (.no), some (.no)]) (kt := [1, 2, 3, 7, 8, 9]) (ko := [1]) (T' := [(1, .int .i64 a1), (2, .int .i64 b2), (3, .ra 1 0), (7, .int .i64 g_19), (8, .bool ok_33), (9, .int .i64 (wr (h_29 + 1)))]) (O' := [(1, .box [.int .i64 s0.fSize, .sl (List.map I s0.fPlus), .sl (List.map I s0.fTimes), .sl (List.map AV.bool s0.fBelow)])]) (by kernel_rfl) trivial (by kernel_rfl) (by kernel_rfl) ?_
        refine loopQ_norm ?_
        exact (spec_l1Join_l0_ih _ _ h c hc)
    · refine Wp.condF (b := v_30) (by kernel_rfl) (by kernel_rfl) hb_32 ?_
      refine Wp.exitN (i := 2) (by kernel_rfl) ?_
      refine seqQ_exit ?_
      refine loopQ_exit ?_
      obtain rfl := Option.some.inj h
      exact Into.view (fun a w hv => SRx.renL [] hv (by kernel_rfl) (by kernel_rfl) (by kernel_rfl))
def spec_l1Join_F2 (c : Ctx) : (Unit) ⊕ (Int) → Exit → AState → Prop
  | .inl _ => Into c (.exit 0) (mkS [] [])
  | .inr r => RetE TIx Try.f166 [] (.int .i64 r)
def spec_l1Join_l1 (p : GSystem × Int × Int × Int) : Option ((Unit) ⊕ (Int)) :=
  match p with
  | (s0, a1, b2, g_19) =>
    if (decide (g_19 < s0.fSize)) = true then
      (
        (spec_l1Le (s0, a1, g_19)) >>= fun r_4_3 =>
        if r_4_3 = true then
          (spec_l1Le (s0, b2, g_19)) >>= fun r_4_8 =>
          some (r_4_8)
        else
          some (false)
      ) >>= fun ok_21 =>
      (spec_l1Join_l0 (s0, a1, b2, g_19, ok_21, 0)) >>= fun ok_35 =>
      if ok_35 = true then
        some (.inr g_19)
      else
        spec_l1Join_l1 (s0, a1, b2, (wr (g_19 + 1)))
    else
      some (.inl ())
  partial_fixpoint
def M_spec_l1Join_l1 (p : GSystem × Int × Int × Int) (fl : (Unit) ⊕ (Int)) : Prop :=
  match p with
  | (s0, a1, b2, g_19) => ∀ c : Ctx, c.nt = 55 → WpL Try.prog c (cl (cl (cr (cl (cr B166))))) (spec_l1Join_F2 c fl) (mkS [(1, .int .i64 a1), (2, .int .i64 b2), (3, .ra 1 0), (7, .int .i64 g_19)] [(1, .box [.int .i64 s0.fSize, .sl (List.map I s0.fPlus), .sl (List.map I s0.fTimes), .sl (List.map AV.bool s0.fBelow)])])
theorem spec_l1Join_l1_s : ∀ p r, spec_l1Join_l1 p = some r → M_spec_l1Join_l1 p r := by
  refine spec_l1Join_l1.partial_correctness M_spec_l1Join_l1 ?_
  rintro spec_l1Join_l1_f spec_l1Join_l1_ih ⟨s0, a1, b2, g_19⟩ r h
  intro c hc
  show WpL Try.prog c (cl (cl (cr (cl (cr B166))))) (spec_l1Join_F2 c r) (mkS [(1, .int .i64 a1), (2, .int .i64 b2), (3, .ra 1 0), (7, .int .i64 g_19)] [(1, .box [.int .i64 s0.fSize, .sl (List.map I s0.fPlus), .sl (List.map I s0.fTimes), .sl (List.map AV.bool s0.fBelow)])])
  refine WpL.step ?_
  refine Wp.seqN (by kernel_rfl) ?_
  refine Wp.seqN (by kernel_rfl) ?_
  refine Wp.reg tiok mix hc (by kernel_rfl) (ah := none) (rs := [some (.no), some (.no), some (.no), some (.no)]) (kt := [1, 2, 3, 7, 13]) (ko := [1]) (T' := [(1, .int .i64 a1), (2, .int .i64 b2), (3, .ra 1 0), (7, .int .i64 g_19), (13, .bool (decide (g_19 < s0.fSize)))]) (O' := [(1, .box [.int .i64 s0.fSize, .sl (List.map I s0.fPlus), .sl (List.map I s0.fTimes), .sl (List.map AV.bool s0.fBelow)])]) (by kernel_rfl) trivial (by kernel_rfl) (by kernel_rfl) ?_
  refine seqQ_norm ?_
  rcases itesome h with ⟨hb_20, h⟩ | ⟨hb_20, h⟩
  · refine Wp.condT (b := (decide (g_19 < s0.fSize))) (by kernel_rfl) (by kernel_rfl) hb_20 ?_
    refine Wp.skipN (by kernel_rfl) ?_
    refine seqQ_norm ?_
    refine Wp.seqN (by kernel_rfl) ?_
    refine Wp.blockN (i := 1) (by kernel_rfl) ?_
    refine Wp.seqN (by kernel_rfl) ?_
    obtain ⟨ok_21, hj_22, h⟩ := bsome h
    refine Wp.into (x := .normal) (mkS [(1, .int .i64 a1), (2, .int .i64 b2), (3, .ra 1 0), (7, .int .i64 g_19), (8, .bool ok_21)] [(1, .box [.int .i64 s0.fSize, .sl (List.map I s0.fPlus), .sl (List.map I s0.fTimes), .sl (List.map AV.bool s0.fBelow)])]) ?_ ?_
    · replace h := hj_22
      obtain ⟨r_4_3, hr_4_3, h⟩ := bsome h
      rcases itesome h with ⟨hb_4_0, h⟩ | ⟨hb_4_0, h⟩
      · obtain ⟨r_4_8, hr_4_8, h⟩ := bsome h
        refine Wp.reg tiok mix hc (by kernel_rfl) (ah := none) (rs := [some (.no), some (.no), some (.no), some (.call (.bool r_4_3) [] 1), some (.no), some (.no), some (.no), some (.no), some (.call (.bool r_4_8) [] 1), some (.cond true), some (.no)]) (kt := [1, 2, 3, 7, 8]) (ko := [1]) (T' := [(1, .int .i64 a1), (2, .int .i64 b2), (3, .ra 1 0), (7, .int .i64 g_19), (8, .bool r_4_8)]) (O' := [(1, .box [.int .i64 s0.fSize, .sl (List.map I s0.fPlus), .sl (List.map I s0.fTimes), .sl (List.map AV.bool s0.fBelow)])]) (by kernel_rfl) (And.intro (spec_l1Le_s _ _ hr_4_3) (And.intro bod_155 (And.intro (Or.inl rfl : ([] : List Nat) = [] ∨ noSh (.bool r_4_3) = true) (And.intro hb_4_0 (And.intro hb_4_0 (And.intro hb_4_0 (And.intro hb_4_0 (And.intro (spec_l1Le_s _ _ hr_4_8) (And.intro bod_155 (And.intro (Or.inl rfl : ([] : List Nat) = [] ∨ noSh (.bool r_4_8) = true) (And.intro hb_4_0 trivial))))))))))) (by kernel_rfl) (by kernel_rfl) ?_
        obtain rfl := Option.some.inj h
        exact Into.mk
      · refine Wp.reg tiok mix hc (by kernel_rfl) (ah := none) (rs := [some (.no), some (.no), some (.no), some (.call (.bool r_4_3) [] 1), some (.no), none, none, none, none, some (.cond false), some (.no)]) (kt := [1, 2, 3, 7, 8]) (ko := [1]) (T' := [(1, .int .i64 a1), (2, .int .i64 b2), (3, .ra 1 0), (7, .int .i64 g_19), (8, .bool false)]) (O' := [(1, .box [.int .i64 s0.fSize, .sl (List.map I s0.fPlus), .sl (List.map I s0.fTimes), .sl (List.map AV.bool s0.fBelow)])]) (by kernel_rfl) (And.intro (spec_l1Le_s _ _ hr_4_3) (And.intro bod_155 (And.intro (Or.inl rfl : ([] : List Nat) = [] ∨ noSh (.bool r_4_3) = true) (And.intro (neT hb_4_0 : r_4_3 ≠ true) (And.intro (neT hb_4_0 : r_4_3 ≠ true) (And.intro (neT hb_4_0 : r_4_3 ≠ true) (And.intro (neT hb_4_0 : r_4_3 ≠ true) (And.intro hb_4_0 trivial)))))))) (by kernel_rfl) (by kernel_rfl) ?_
        obtain rfl := Option.some.inj h
        exact Into.mk
    · clear hj_22
      refine seqQ_norm ?_
      refine Wp.seqN (by kernel_rfl) ?_
      refine Wp.seqN (by kernel_rfl) ?_
      refine Wp.reg tiok mix hc (by kernel_rfl) (ah := none) (rs := [some (.no)]) (kt := [1, 2, 3, 7, 8, 9]) (ko := [1]) (T' := [(1, .int .i64 a1), (2, .int .i64 b2), (3, .ra 1 0), (7, .int .i64 g_19), (8, .bool ok_21), (9, .int .i64 0)]) (O' := [(1, .box [.int .i64 s0.fSize, .sl (List.map I s0.fPlus), .sl (List.map I s0.fTimes), .sl (List.map AV.bool s0.fBelow)])]) (by kernel_rfl) trivial (by kernel_rfl) (by kernel_rfl) ?_
      refine seqQ_norm ?_
      refine Wp.blockN (i := 2) (by kernel_rfl) ?_
      obtain ⟨ok_35, hl_36, h⟩ := bsome h
      have hL := spec_l1Join_l0_s _ _ hl_36 c hc
      refine Wp.loopN (by kernel_rfl) ?_
      · refine WpL.into (e := (.exit 2)) (mkS [(1, .int .i64 a1), (2, .int .i64 b2), (3, .ra 1 0), (7, .int .i64 g_19), (8, .bool ok_35)] [(1, .box [.int .i64 s0.fSize, .sl (List.map I s0.fPlus), .sl (List.map I s0.fTimes), .sl (List.map AV.bool s0.fBelow)])]) hL ?_
        refine blockQ_hit ?_
        refine seqQ_norm ?_
        refine Wp.seqN (by kernel_rfl) ?_
        refine Wp.reg tiok mix hc (by kernel_rfl) (ah := none) (rs := [some (.no)]) (kt := [1, 2, 3, 7, 53]) (ko := [1]) (T' := [(1, .int .i64 a1), (2, .int .i64 b2), (3, .ra 1 0), (7, .int .i64 g_19), (53, .bool ok_35)]) (O' := [(1, .box [.int .i64 s0.fSize, .sl (List.map I s0.fPlus), .sl (List.map I s0.fTimes), .sl (List.map AV.bool s0.fBelow)])]) (by kernel_rfl) trivial (by kernel_rfl) (by kernel_rfl) ?_
        refine seqQ_norm ?_
        rcases itesome h with ⟨hb_37, h⟩ | ⟨hb_37, h⟩
        · refine Wp.condT (b := ok_35) (by kernel_rfl) (by kernel_rfl) hb_37 ?_
          refine Wp.seqN (by kernel_rfl) ?_
          refine Wp.reg tiok mix hc (by kernel_rfl) (ah := none) (rs := [some (.no), some (.no)]) (kt := [6]) (ko := []) (T' := [(6, .int .i64 g_19)]) (O' := []) (by kernel_rfl) trivial (by kernel_rfl) (by kernel_rfl) ?_
          refine seqQ_norm ?_
          refine Wp.retN (by kernel_rfl) ?_
          refine blockQ_ret ?_
          refine seqQ_ret ?_
          refine loopQ_ret ?_
          obtain rfl := Option.some.inj h
          exact RetE.ret (fl := [true]) (by kernel_rfl)
        · refine Wp.condF (b := ok_35) (by kernel_rfl) (by kernel_rfl) hb_37 ?_
          refine Wp.skipN (by kernel_rfl) ?_
          refine blockQ_norm ?_
          refine seqQ_norm ?_
          refine Wp.reg tiok mix hc (by kernel_rfl) (ah := none) (rs := [some (.no), some (.no), some (.no)]) (kt := [1, 2, 3, 7]) (ko := [1]) (T' := [(1, .int .i64 a1), (2, .int .i64 b2), (3, .ra 1 0), (7, .int .i64 (wr (g_19 + 1)))]) (O' := [(1, .box [.int .i64 s0.fSize, .sl (List.map I s0.fPlus), .sl (List.map I s0.fTimes), .sl (List.map AV.bool s0.fBelow)])]) (by kernel_rfl) trivial (by kernel_rfl) (by kernel_rfl) ?_
          refine loopQ_norm ?_
          exact (spec_l1Join_l1_ih _ _ h c hc)
  · refine Wp.condF (b := (decide (g_19 < s0.fSize))) (by kernel_rfl) (by kernel_rfl) hb_20 ?_
    refine Wp.exitN (i := 0) (by kernel_rfl) ?_
    refine seqQ_exit ?_
    refine loopQ_exit ?_
    obtain rfl := Option.some.inj h
    exact Into.view (fun a w hv => SRx.renL [] hv (by kernel_rfl) (by kernel_rfl) (by kernel_rfl))
def spec_l1Join (p : GSystem × Int × Int) : Option (Int) :=
  match p with
  | (s0, a1, b2) =>
    (spec_l1Join_l1 (s0, a1, b2, 0)) >>= fun fl => match fl with
    | .inl () =>
      some (-1)
    | .inr r =>
      some r
def M_spec_l1Join (p : GSystem × Int × Int) (r : Int) : Prop :=
  match p with
  | (s0, a1, b2) => FnSound Try.prog 166 [.agg [.int .i64 s0.fSize, .sl (List.map I s0.fPlus), .sl (List.map I s0.fTimes), .sl (List.map AV.bool s0.fBelow)], .int .i64 a1, .int .i64 b2] (.int .i64 r) []
theorem spec_l1Join_s : ∀ p r, spec_l1Join p = some r → M_spec_l1Join p r := by
  rintro ⟨s0, a1, b2⟩ r h
  unfold spec_l1Join at h
  show FnSound Try.prog 166 [.agg [.int .i64 s0.fSize, .sl (List.map I s0.fPlus), .sl (List.map I s0.fTimes), .sl (List.map AV.bool s0.fBelow)], .int .i64 a1, .int .i64 b2] (.int .i64 r) []
  refine FnSound.body0 tiok (fn := Try.f166) (code := B166) (by kernel_rfl) (by kernel_rfl) (by kernel_rfl) (by kernel_rfl) (nt := 55) (by kernel_rfl) (by kernel_rfl) (T := [(0, .agg [.int .i64 s0.fSize, .sl (List.map I s0.fPlus), .sl (List.map I s0.fTimes), .sl (List.map AV.bool s0.fBelow)]), (1, .int .i64 a1), (2, .int .i64 b2)]) (O := []) (by kernel_rfl) (by kernel_rfl) (fun c hc => ?_)
  refine Wp.seqN (by kernel_rfl) ?_
  refine Wp.reg tiok mix hc (by kernel_rfl) (ah := none) (rs := [some (.new 1), some (.no)]) (kt := [1, 2, 3]) (ko := [1]) (T' := [(1, .int .i64 a1), (2, .int .i64 b2), (3, .ra 1 0)]) (O' := [(1, .box [.int .i64 s0.fSize, .sl (List.map I s0.fPlus), .sl (List.map I s0.fTimes), .sl (List.map AV.bool s0.fBelow)])]) (by kernel_rfl) trivial (by kernel_rfl) (by kernel_rfl) ?_
  refine seqQ_norm ?_
  refine Wp.seqN (by kernel_rfl) ?_
  refine Wp.seqN (by kernel_rfl) ?_
  refine Wp.reg tiok mix hc (by kernel_rfl) (ah := none) (rs := [some (.no)]) (kt := [1, 2, 3, 7]) (ko := [1]) (T' := [(1, .int .i64 a1), (2, .int .i64 b2), (3, .ra 1 0), (7, .int .i64 0)]) (O' := [(1, .box [.int .i64 s0.fSize, .sl (List.map I s0.fPlus), .sl (List.map I s0.fTimes), .sl (List.map AV.bool s0.fBelow)])]) (by kernel_rfl) trivial (by kernel_rfl) (by kernel_rfl) ?_
  refine seqQ_norm ?_
  refine Wp.blockN (i := 0) (by kernel_rfl) ?_
  obtain ⟨fl, hl_38, h⟩ := bsome h
  have hL := spec_l1Join_l1_s _ _ hl_38 c hc
  refine Wp.loopN (by kernel_rfl) ?_
  rcases fl with ⟨⟩ | r
  · refine WpL.into (e := (.exit 0)) (mkS [] []) hL ?_
    refine blockQ_hit ?_
    refine seqQ_norm ?_
    refine Wp.seqN (by kernel_rfl) ?_
    refine Wp.reg tiok mix hc (by kernel_rfl) (ah := none) (rs := [some (.no)]) (kt := [6]) (ko := []) (T' := [(6, .int .i64 (-1))]) (O' := []) (by kernel_rfl) trivial (by kernel_rfl) (by kernel_rfl) ?_
    refine seqQ_norm ?_
    refine Wp.retN (by kernel_rfl) ?_
    obtain rfl := Option.some.inj h
    exact RetQ.ret (fl := [true]) (by kernel_rfl)
  · refine WpL.mono hL ?_
    rintro _ _ ⟨rfl, hfin⟩
    refine blockQ_ret ?_
    refine seqQ_ret ?_
    obtain rfl := Option.some.inj h
    exact ⟨.inl rfl, hfin⟩
def spec_l1Two (p : GSystem × Int × Int) : Option (Bool) :=
  match p with
  | (s0, a1, b2) =>
    (
      (spec_l1Add (s0, a1, b2)) >>= fun r_1_3 =>
      (spec_l1Add (s0, b2, a1)) >>= fun r_1_7 =>
      if (r_1_3 == r_1_7) = true then
        if (a1 == b2) = true then
          (spec_l1Join (s0, a1, b2)) >>= fun r_1_32 =>
          some ((decide (r_1_32 ≥ 0)))
        else
          (spec_l1Le (s0, a1, b2)) >>= fun r_1_17 =>
          if r_1_17 = true then
            (spec_l1Le (s0, b2, a1)) >>= fun r_1_24 =>
            if r_1_24 = true then
              some (false)
            else
              (spec_l1Join (s0, a1, b2)) >>= fun r_1_32 =>
              some ((decide (r_1_32 ≥ 0)))
          else
            (spec_l1Join (s0, a1, b2)) >>= fun r_1_32 =>
            some ((decide (r_1_32 ≥ 0)))
      else
        some (false)
    ) >>= fun v_1 =>
    some v_1
def M_spec_l1Two (p : GSystem × Int × Int) (r : Bool) : Prop :=
  match p with
  | (s0, a1, b2) => FnSound Try.prog 147 [.agg [.int .i64 s0.fSize, .sl (List.map I s0.fPlus), .sl (List.map I s0.fTimes), .sl (List.map AV.bool s0.fBelow)], .int .i64 a1, .int .i64 b2] (.bool r) []
theorem spec_l1Two_s : ∀ p r, spec_l1Two p = some r → M_spec_l1Two p r := by
  rintro ⟨s0, a1, b2⟩ r h
  unfold spec_l1Two at h
  show FnSound Try.prog 147 [.agg [.int .i64 s0.fSize, .sl (List.map I s0.fPlus), .sl (List.map I s0.fTimes), .sl (List.map AV.bool s0.fBelow)], .int .i64 a1, .int .i64 b2] (.bool r) []
  refine FnSound.body0 tiok (fn := Try.f147) (code := B147) (by kernel_rfl) (by kernel_rfl) (by kernel_rfl) (by kernel_rfl) (nt := 42) (by kernel_rfl) (by kernel_rfl) (T := [(0, .agg [.int .i64 s0.fSize, .sl (List.map I s0.fPlus), .sl (List.map I s0.fTimes), .sl (List.map AV.bool s0.fBelow)]), (1, .int .i64 a1), (2, .int .i64 b2)]) (O := []) (by kernel_rfl) (by kernel_rfl) (fun c hc => ?_)
  refine Wp.seqN (by kernel_rfl) ?_
  refine Wp.reg tiok mix hc (by kernel_rfl) (ah := none) (rs := [some (.new 1), some (.no)]) (kt := [1, 2, 3]) (ko := [1]) (T' := [(1, .int .i64 a1), (2, .int .i64 b2), (3, .ra 1 0)]) (O' := [(1, .box [.int .i64 s0.fSize, .sl (List.map I s0.fPlus), .sl (List.map I s0.fTimes), .sl (List.map AV.bool s0.fBelow)])]) (by kernel_rfl) trivial (by kernel_rfl) (by kernel_rfl) ?_
  refine seqQ_norm ?_
  refine Wp.seqN (by kernel_rfl) ?_
  obtain ⟨v_1, hj_2, h⟩ := bsome h
  refine Wp.into (x := .normal) (mkS [(6, .bool v_1)] []) ?_ ?_
  · replace h := hj_2
    obtain ⟨r_1_3, hr_1_3, h⟩ := bsome h
    obtain ⟨r_1_7, hr_1_7, h⟩ := bsome h
    rcases itesome h with ⟨hb_1_0, h⟩ | ⟨hb_1_0, h⟩
    · rcases itesome h with ⟨hb_1_1, h⟩ | ⟨hb_1_1, h⟩
      · obtain ⟨r_1_32, hr_1_32, h⟩ := bsome h
        refine Wp.reg tiok mix hc (by kernel_rfl) (ah := (some [[], [], [], [0, 1, 2], [], [], [], [0, 1, 2, 3, 4, 5, 6], [0, 1, 2, 3, 4, 5, 6, 7], [0, 1, 2, 3, 4, 5, 6, 7, 8], [0, 1, 2, 3, 4, 5, 6, 7, 8, 9], [0, 1, 2, 3, 4, 5, 6, 7, 8, 9], [0, 1, 2, 3, 4, 5, 6, 7, 8, 9, 10, 11], [0, 1, 2, 3, 4, 5, 6, 7, 8, 9, 10, 11, 12], [0, 1, 2, 3, 4, 5, 6, 7, 8, 9, 10, 11, 12, 13], [0, 1, 2, 3, 4, 5, 6, 7, 8, 9, 10, 11, 12, 13], [0, 1, 2, 3, 4, 5, 6, 7, 8, 9, 10, 11, 12, 13], [0, 1, 2, 3, 4, 5, 6, 7, 8, 9, 10, 11, 12, 13, 14, 15, 16], [0, 1, 2, 3, 4, 5, 6, 7, 8, 9, 10, 11, 12, 13, 14, 15, 16, 17], [0, 1, 2, 3, 4, 5, 6, 7, 8, 9, 10, 11, 12, 13, 14, 15, 16, 17, 18], [0, 1, 2, 3, 4, 5, 6, 7, 8, 9, 10, 11, 12, 13, 14, 15, 16, 17, 18, 19], [0, 1, 2, 3, 4, 5, 6, 7, 8, 9, 10, 11, 12, 13, 14, 15, 16, 17, 18, 19, 20], [0, 1, 2, 3, 4, 5, 6, 7, 8, 9, 10, 11, 12, 13, 14, 15, 16, 17, 18, 19, 20], [0, 1, 2, 3, 4, 5, 6, 7, 8, 9, 10, 11, 12, 13, 14, 15, 16, 17, 18, 19, 20], [0, 1, 2, 3, 4, 5, 6, 7, 8, 9, 10, 11, 12, 13, 14, 15, 16, 17, 18, 19, 20, 21, 22, 23], [0, 1, 2, 3, 4, 5, 6, 7, 8, 9, 10, 11, 12, 13, 14, 15, 16, 17, 18, 19, 20, 21, 22, 23, 24], [0, 1, 2, 3, 4, 5, 6, 7, 8, 9, 10, 11, 12, 13, 14, 15, 16, 17, 18, 19, 20, 21, 22, 23, 24, 25], [0, 1, 2, 3, 4, 5, 6, 7, 8, 9, 10, 11, 12, 13, 14, 15, 16, 17, 18, 19, 20, 21, 22, 23, 24, 25, 26], [0, 1, 2, 3, 4, 5, 6, 7, 8, 9, 10, 11, 12, 13, 14, 15, 16, 17, 18, 19, 20, 21, 22, 23, 24, 25, 26, 27], [0, 1, 2, 3, 4, 5, 6, 7, 8, 9, 10, 11, 12, 13, 14, 15, 16, 17, 18, 19, 20, 21, 22, 23, 24, 25, 26, 27, 28], [0, 1, 2, 3, 4, 5, 6, 7, 8, 9, 10, 11, 12, 13, 14, 15, 16, 17, 18, 19, 20, 21, 22, 23, 24, 25, 26, 27, 28], [0, 1, 2, 3, 4, 5, 6, 7, 8, 9, 10, 11, 12, 13, 14, 15, 16, 17, 18, 19, 20, 21, 22, 23, 24, 25, 26, 27, 28], [0, 1, 2, 3, 4, 5, 6, 7, 8, 9, 10, 11, 12, 13, 14, 15, 16, 17, 18, 19, 20, 21, 22, 23, 24, 25, 26, 27, 28, 29, 30, 31], [0, 1, 2, 3, 4, 5, 6, 7, 8, 9, 10, 11, 12, 13, 14, 15, 16, 17, 18, 19, 20, 21, 22, 23, 24, 25, 26, 27, 28, 29, 30, 31, 32], [0, 1, 2, 3, 4, 5, 6, 7, 8, 9, 10, 11, 12, 13, 14, 15, 16, 17, 18, 19, 20, 21, 22, 23, 24, 25, 26, 27, 28, 29, 30, 31, 32, 33], [0, 1, 2, 3, 4, 5, 6, 7, 8, 9, 10, 11, 12, 13, 14, 15, 16, 17, 18, 19, 20, 21, 22, 23, 24, 25, 26, 27, 28, 29, 30, 31, 32, 33, 34]])) (rs := [some (.no), some (.no), some (.no), some (.call (.int .i64 r_1_3) [] 1), some (.no), some (.no), some (.no), some (.call (.int .i64 r_1_7) [] 1), some (.no), some (.no), some (.no), some (.no), some (.no), some (.no), none, none, none, none, none, some (.cond true), some (.no), none, none, none, none, none, some (.cond true), some (.cond true), some (.no), some (.no), some (.no), some (.no), some (.call (.int .i64 r_1_32) [] 1), some (.no), some (.cond true), some (.no)]) (kt := [6]) (ko := []) (T' := [(6, .bool (decide (r_1_32 ≥ 0)))]) (O' := []) (by kernel_rfl) (And.intro (spec_l1Add_s _ _ hr_1_3) (And.intro bod_153 (And.intro (Or.inl rfl : ([] : List Nat) = [] ∨ noSh (.int .i64 r_1_3) = true) (And.intro (spec_l1Add_s _ _ hr_1_7) (And.intro bod_153 (And.intro (Or.inl rfl : ([] : List Nat) = [] ∨ noSh (.int .i64 r_1_7) = true) (And.intro hb_1_0 (And.intro hb_1_0 (And.intro hb_1_0 (And.intro hb_1_0 (And.intro (neF hb_1_1 : (a1 == b2) ≠ false) (And.intro (neF hb_1_1 : (a1 == b2) ≠ false) (And.intro (neF hb_1_1 : (a1 == b2) ≠ false) (And.intro (neF hb_1_1 : (a1 == b2) ≠ false) (And.intro (neF hb_1_1 : (a1 == b2) ≠ false) (And.intro hb_1_0 (And.intro hb_1_1 (And.intro hb_1_0 (And.intro (neF (rfl : true = true) : true ≠ false) (And.intro (neF (rfl : true = true) : true ≠ false) (And.intro (neF (rfl : true = true) : true ≠ false) (And.intro (neF (rfl : true = true) : true ≠ false) (And.intro (neF (rfl : true = true) : true ≠ false) (And.intro hb_1_0 (And.intro (rfl : true = true) (And.intro hb_1_0 (And.intro (rfl : true = true) (And.intro (rfl : true = true) (And.intro (rfl : true = true) (And.intro (rfl : true = true) (And.intro (spec_l1Join_s _ _ hr_1_32) (And.intro bod_166 (And.intro (Or.inl rfl : ([] : List Nat) = [] ∨ noSh (.int .i64 r_1_32) = true) (And.intro (rfl : true = true) (And.intro (rfl : true = true) trivial))))))))))))))))))))))))))))))))))) (by kernel_rfl) (by kernel_rfl) ?_
        obtain rfl := Option.some.inj h
        exact Into.mk
      · obtain ⟨r_1_17, hr_1_17, h⟩ := bsome h
        rcases itesome h with ⟨hb_1_2, h⟩ | ⟨hb_1_2, h⟩
        · obtain ⟨r_1_24, hr_1_24, h⟩ := bsome h
          rcases itesome h with ⟨hb_1_3, h⟩ | ⟨hb_1_3, h⟩
          · refine Wp.reg tiok mix hc (by kernel_rfl) (ah := (some [[], [], [], [0, 1, 2], [], [], [], [0, 1, 2, 3, 4, 5, 6], [0, 1, 2, 3, 4, 5, 6, 7], [0, 1, 2, 3, 4, 5, 6, 7, 8], [0, 1, 2, 3, 4, 5, 6, 7, 8, 9], [0, 1, 2, 3, 4, 5, 6, 7, 8, 9], [0, 1, 2, 3, 4, 5, 6, 7, 8, 9, 10, 11], [0, 1, 2, 3, 4, 5, 6, 7, 8, 9, 10, 11, 12], [0, 1, 2, 3, 4, 5, 6, 7, 8, 9, 10, 11, 12, 13], [0, 1, 2, 3, 4, 5, 6, 7, 8, 9, 10, 11, 12, 13], [0, 1, 2, 3, 4, 5, 6, 7, 8, 9, 10, 11, 12, 13], [0, 1, 2, 3, 4, 5, 6, 7, 8, 9, 10, 11, 12, 13, 14, 15, 16], [0, 1, 2, 3, 4, 5, 6, 7, 8, 9, 10, 11, 12, 13, 14, 15, 16, 17], [0, 1, 2, 3, 4, 5, 6, 7, 8, 9, 10, 11, 12, 13, 14, 15, 16, 17, 18], [0, 1, 2, 3, 4, 5, 6, 7, 8, 9, 10, 11, 12, 13, 14, 15, 16, 17, 18, 19], [0, 1, 2, 3, 4, 5, 6, 7, 8, 9, 10, 11, 12, 13, 14, 15, 16, 17, 18, 19, 20], [0, 1, 2, 3, 4, 5, 6, 7, 8, 9, 10, 11, 12, 13, 14, 15, 16, 17, 18, 19, 20], [0, 1, 2, 3, 4, 5, 6, 7, 8, 9, 10, 11, 12, 13, 14, 15, 16, 17, 18, 19, 20], [0, 1, 2, 3, 4, 5, 6, 7, 8, 9, 10, 11, 12, 13, 14, 15, 16, 17, 18, 19, 20, 21, 22, 23], [0, 1, 2, 3, 4, 5, 6, 7, 8, 9, 10, 11, 12, 13, 14, 15, 16, 17, 18, 19, 20, 21, 22, 23, 24], [0, 1, 2, 3, 4, 5, 6, 7, 8, 9, 10, 11, 12, 13, 14, 15, 16, 17, 18, 19, 20, 21, 22, 23, 24, 25], [0, 1, 2, 3, 4, 5, 6, 7, 8, 9, 10, 11, 12, 13, 14, 15, 16, 17, 18, 19, 20, 21, 22, 23, 24, 25, 26], [0, 1, 2, 3, 4, 5, 6, 7, 8, 9, 10, 11, 12, 13, 14, 15, 16, 17, 18, 19, 20, 21, 22, 23, 24, 25, 26, 27], [0, 1, 2, 3, 4, 5, 6, 7, 8, 9, 10, 11, 12, 13, 14, 15, 16, 17, 18, 19, 20, 21, 22, 23, 24, 25, 26, 27, 28], [0, 1, 2, 3, 4, 5, 6, 7, 8, 9, 10, 11, 12, 13, 14, 15, 16, 17, 18, 19, 20, 21, 22, 23, 24, 25, 26, 27, 28], [0, 1, 2, 3, 4, 5, 6, 7, 8, 9, 10, 11, 12, 13, 14, 15, 16, 17, 18, 19, 20, 21, 22, 23, 24, 25, 26, 27, 28], [0, 1, 2, 3, 4, 5, 6, 7, 8, 9, 10, 11, 12, 13, 14, 15, 16, 17, 18, 19, 20, 21, 22, 23, 24, 25, 26, 27, 28, 29, 30, 31], [0, 1, 2, 3, 4, 5, 6, 7, 8, 9, 10, 11, 12, 13, 14, 15, 16, 17, 18, 19, 20, 21, 22, 23, 24, 25, 26, 27, 28, 29, 30, 31, 32], [0, 1, 2, 3, 4, 5, 6, 7, 8, 9, 10, 11, 12, 13, 14, 15, 16, 17, 18, 19, 20, 21, 22, 23, 24, 25, 26, 27, 28, 29, 30, 31, 32, 33], [0, 1, 2, 3, 4, 5, 6, 7, 8, 9, 10, 11, 12, 13, 14, 15, 16, 17, 18, 19, 20, 21, 22, 23, 24, 25, 26, 27, 28, 29, 30, 31, 32, 33, 34]])) (rs := [some (.no), some (.no), some (.no), some (.call (.int .i64 r_1_3) [] 1), some (.no), some (.no), some (.no), some (.call (.int .i64 r_1_7) [] 1), some (.no), some (.no), some (.no), some (.no), some (.no), some (.no), some (.no), some (.no), some (.no), some (.call (.bool r_1_17) [] 1), some (.no), some (.cond false), some (.no), some (.no), some (.no), some (.no), some (.call (.bool r_1_24) [] 1), some (.no), some (.cond false), some (.cond true), some (.no), none, none, none, none, none, some (.cond false), some (.no)]) (kt := [6]) (ko := []) (T' := [(6, .bool false)]) (O' := []) (by kernel_rfl) (And.intro (spec_l1Add_s _ _ hr_1_3) (And.intro bod_153 (And.intro (Or.inl rfl : ([] : List Nat) = [] ∨ noSh (.int .i64 r_1_3) = true) (And.intro (spec_l1Add_s _ _ hr_1_7) (And.intro bod_153 (And.intro (Or.inl rfl : ([] : List Nat) = [] ∨ noSh (.int .i64 r_1_7) = true) (And.intro hb_1_0 (And.intro hb_1_0 (And.intro hb_1_0 (And.intro hb_1_0 (And.intro hb_1_1 (And.intro hb_1_1 (And.intro hb_1_1 (And.intro hb_1_1 (And.intro (spec_l1Le_s _ _ hr_1_17) (And.intro bod_155 (And.intro (Or.inl rfl : ([] : List Nat) = [] ∨ noSh (.bool r_1_17) = true) (And.intro hb_1_1 (And.intro hb_1_0 (And.intro hb_1_1 (And.intro hb_1_0 (And.intro (nF hb_1_2) (And.intro (nF hb_1_2) (And.intro (nF hb_1_2) (And.intro (nF hb_1_2) (And.intro (spec_l1Le_s _ _ hr_1_24) (And.intro bod_155 (And.intro (Or.inl rfl : ([] : List Nat) = [] ∨ noSh (.bool r_1_24) = true) (And.intro (nF hb_1_2) (And.intro hb_1_0 (And.intro (nF hb_1_2) (And.intro hb_1_0 (And.intro (neT (nF hb_1_3) : (!r_1_24) ≠ true) (And.intro (neT (nF hb_1_3) : (!r_1_24) ≠ true) (And.intro (neT (nF hb_1_3) : (!r_1_24) ≠ true) (And.intro (neT (nF hb_1_3) : (!r_1_24) ≠ true) (And.intro (neT (nF hb_1_3) : (!r_1_24) ≠ true) (And.intro (nF hb_1_3) trivial)))))))))))))))))))))))))))))))))))))) (by kernel_rfl) (by kernel_rfl) ?_
            obtain rfl := Option.some.inj h
            exact Into.mk
          · obtain ⟨r_1_32, hr_1_32, h⟩ := bsome h
            refine Wp.reg tiok mix hc (by kernel_rfl) (ah := (some [[], [], [], [0, 1, 2], [], [], [], [0, 1, 2, 3, 4, 5, 6], [0, 1, 2, 3, 4, 5, 6, 7], [0, 1, 2, 3, 4, 5, 6, 7, 8], [0, 1, 2, 3, 4, 5, 6, 7, 8, 9], [0, 1, 2, 3, 4, 5, 6, 7, 8, 9], [0, 1, 2, 3, 4, 5, 6, 7, 8, 9, 10, 11], [0, 1, 2, 3, 4, 5, 6, 7, 8, 9, 10, 11, 12], [0, 1, 2, 3, 4, 5, 6, 7, 8, 9, 10, 11, 12, 13], [0, 1, 2, 3, 4, 5, 6, 7, 8, 9, 10, 11, 12, 13], [0, 1, 2, 3, 4, 5, 6, 7, 8, 9, 10, 11, 12, 13], [0, 1, 2, 3, 4, 5, 6, 7, 8, 9, 10, 11, 12, 13, 14, 15, 16], [0, 1, 2, 3, 4, 5, 6, 7, 8, 9, 10, 11, 12, 13, 14, 15, 16, 17], [0, 1, 2, 3, 4, 5, 6, 7, 8, 9, 10, 11, 12, 13, 14, 15, 16, 17, 18], [0, 1, 2, 3, 4, 5, 6, 7, 8, 9, 10, 11, 12, 13, 14, 15, 16, 17, 18, 19], [0, 1, 2, 3, 4, 5, 6, 7, 8, 9, 10, 11, 12, 13, 14, 15, 16, 17, 18, 19, 20], [0, 1, 2, 3, 4, 5, 6, 7, 8, 9, 10, 11, 12, 13, 14, 15, 16, 17, 18, 19, 20], [0, 1, 2, 3, 4, 5, 6, 7, 8, 9, 10, 11, 12, 13, 14, 15, 16, 17, 18, 19, 20], [0, 1, 2, 3, 4, 5, 6, 7, 8, 9, 10, 11, 12, 13, 14, 15, 16, 17, 18, 19, 20, 21, 22, 23], [0, 1, 2, 3, 4, 5, 6, 7, 8, 9, 10, 11, 12, 13, 14, 15, 16, 17, 18, 19, 20, 21, 22, 23, 24], [0, 1, 2, 3, 4, 5, 6, 7, 8, 9, 10, 11, 12, 13, 14, 15, 16, 17, 18, 19, 20, 21, 22, 23, 24, 25], [0, 1, 2, 3, 4, 5, 6, 7, 8, 9, 10, 11, 12, 13, 14, 15, 16, 17, 18, 19, 20, 21, 22, 23, 24, 25, 26], [0, 1, 2, 3, 4, 5, 6, 7, 8, 9, 10, 11, 12, 13, 14, 15, 16, 17, 18, 19, 20, 21, 22, 23, 24, 25, 26, 27], [0, 1, 2, 3, 4, 5, 6, 7, 8, 9, 10, 11, 12, 13, 14, 15, 16, 17, 18, 19, 20, 21, 22, 23, 24, 25, 26, 27, 28], [0, 1, 2, 3, 4, 5, 6, 7, 8, 9, 10, 11, 12, 13, 14, 15, 16, 17, 18, 19, 20, 21, 22, 23, 24, 25, 26, 27, 28], [0, 1, 2, 3, 4, 5, 6, 7, 8, 9, 10, 11, 12, 13, 14, 15, 16, 17, 18, 19, 20, 21, 22, 23, 24, 25, 26, 27, 28], [0, 1, 2, 3, 4, 5, 6, 7, 8, 9, 10, 11, 12, 13, 14, 15, 16, 17, 18, 19, 20, 21, 22, 23, 24, 25, 26, 27, 28, 29, 30, 31], [0, 1, 2, 3, 4, 5, 6, 7, 8, 9, 10, 11, 12, 13, 14, 15, 16, 17, 18, 19, 20, 21, 22, 23, 24, 25, 26, 27, 28, 29, 30, 31, 32], [0, 1, 2, 3, 4, 5, 6, 7, 8, 9, 10, 11, 12, 13, 14, 15, 16, 17, 18, 19, 20, 21, 22, 23, 24, 25, 26, 27, 28, 29, 30, 31, 32, 33], [0, 1, 2, 3, 4, 5, 6, 7, 8, 9, 10, 11, 12, 13, 14, 15, 16, 17, 18, 19, 20, 21, 22, 23, 24, 25, 26, 27, 28, 29, 30, 31, 32, 33, 34]])) (rs := [some (.no), some (.no), some (.no), some (.call (.int .i64 r_1_3) [] 1), some (.no), some (.no), some (.no), some (.call (.int .i64 r_1_7) [] 1), some (.no), some (.no), some (.no), some (.no), some (.no), some (.no), some (.no), some (.no), some (.no), some (.call (.bool r_1_17) [] 1), some (.no), some (.cond false), some (.no), some (.no), some (.no), some (.no), some (.call (.bool r_1_24) [] 1), some (.no), some (.cond false), some (.cond true), some (.no), some (.no), some (.no), some (.no), some (.call (.int .i64 r_1_32) [] 1), some (.no), some (.cond true), some (.no)]) (kt := [6]) (ko := []) (T' := [(6, .bool (decide (r_1_32 ≥ 0)))]) (O' := []) (by kernel_rfl) (And.intro (spec_l1Add_s _ _ hr_1_3) (And.intro bod_153 (And.intro (Or.inl rfl : ([] : List Nat) = [] ∨ noSh (.int .i64 r_1_3) = true) (And.intro (spec_l1Add_s _ _ hr_1_7) (And.intro bod_153 (And.intro (Or.inl rfl : ([] : List Nat) = [] ∨ noSh (.int .i64 r_1_7) = true) (And.intro hb_1_0 (And.intro hb_1_0 (And.intro hb_1_0 (And.intro hb_1_0 (And.intro hb_1_1 (And.intro hb_1_1 (And.intro hb_1_1 (And.intro hb_1_1 (And.intro (spec_l1Le_s _ _ hr_1_17) (And.intro bod_155 (And.intro (Or.inl rfl : ([] : List Nat) = [] ∨ noSh (.bool r_1_17) = true) (And.intro hb_1_1 (And.intro hb_1_0 (And.intro hb_1_1 (And.intro hb_1_0 (And.intro (nF hb_1_2) (And.intro (nF hb_1_2) (And.intro (nF hb_1_2) (And.intro (nF hb_1_2) (And.intro (spec_l1Le_s _ _ hr_1_24) (And.intro bod_155 (And.intro (Or.inl rfl : ([] : List Nat) = [] ∨ noSh (.bool r_1_24) = true) (And.intro (nF hb_1_2) (And.intro hb_1_0 (And.intro (nF hb_1_2) (And.intro hb_1_0 (And.intro (nT hb_1_3) (And.intro (nT hb_1_3) (And.intro (nT hb_1_3) (And.intro (nT hb_1_3) (And.intro (spec_l1Join_s _ _ hr_1_32) (And.intro bod_166 (And.intro (Or.inl rfl : ([] : List Nat) = [] ∨ noSh (.int .i64 r_1_32) = true) (And.intro (nT hb_1_3) (And.intro (nT hb_1_3) trivial))))))))))))))))))))))))))))))))))))))))) (by kernel_rfl) (by kernel_rfl) ?_
            obtain rfl := Option.some.inj h
            exact Into.mk
        · obtain ⟨r_1_32, hr_1_32, h⟩ := bsome h
          refine Wp.reg tiok mix hc (by kernel_rfl) (ah := (some [[], [], [], [0, 1, 2], [], [], [], [0, 1, 2, 3, 4, 5, 6], [0, 1, 2, 3, 4, 5, 6, 7], [0, 1, 2, 3, 4, 5, 6, 7, 8], [0, 1, 2, 3, 4, 5, 6, 7, 8, 9], [0, 1, 2, 3, 4, 5, 6, 7, 8, 9], [0, 1, 2, 3, 4, 5, 6, 7, 8, 9, 10, 11], [0, 1, 2, 3, 4, 5, 6, 7, 8, 9, 10, 11, 12], [0, 1, 2, 3, 4, 5, 6, 7, 8, 9, 10, 11, 12, 13], [0, 1, 2, 3, 4, 5, 6, 7, 8, 9, 10, 11, 12, 13], [0, 1, 2, 3, 4, 5, 6, 7, 8, 9, 10, 11, 12, 13], [0, 1, 2, 3, 4, 5, 6, 7, 8, 9, 10, 11, 12, 13, 14, 15, 16], [0, 1, 2, 3, 4, 5, 6, 7, 8, 9, 10, 11, 12, 13, 14, 15, 16, 17], [0, 1, 2, 3, 4, 5, 6, 7, 8, 9, 10, 11, 12, 13, 14, 15, 16, 17, 18], [0, 1, 2, 3, 4, 5, 6, 7, 8, 9, 10, 11, 12, 13, 14, 15, 16, 17, 18, 19], [0, 1, 2, 3, 4, 5, 6, 7, 8, 9, 10, 11, 12, 13, 14, 15, 16, 17, 18, 19, 20], [0, 1, 2, 3, 4, 5, 6, 7, 8, 9, 10, 11, 12, 13, 14, 15, 16, 17, 18, 19, 20], [0, 1, 2, 3, 4, 5, 6, 7, 8, 9, 10, 11, 12, 13, 14, 15, 16, 17, 18, 19, 20], [0, 1, 2, 3, 4, 5, 6, 7, 8, 9, 10, 11, 12, 13, 14, 15, 16, 17, 18, 19, 20, 21, 22, 23], [0, 1, 2, 3, 4, 5, 6, 7, 8, 9, 10, 11, 12, 13, 14, 15, 16, 17, 18, 19, 20, 21, 22, 23, 24], [0, 1, 2, 3, 4, 5, 6, 7, 8, 9, 10, 11, 12, 13, 14, 15, 16, 17, 18, 19, 20, 21, 22, 23, 24, 25], [0, 1, 2, 3, 4, 5, 6, 7, 8, 9, 10, 11, 12, 13, 14, 15, 16, 17, 18, 19, 20, 21, 22, 23, 24, 25, 26], [0, 1, 2, 3, 4, 5, 6, 7, 8, 9, 10, 11, 12, 13, 14, 15, 16, 17, 18, 19, 20, 21, 22, 23, 24, 25, 26, 27], [0, 1, 2, 3, 4, 5, 6, 7, 8, 9, 10, 11, 12, 13, 14, 15, 16, 17, 18, 19, 20, 21, 22, 23, 24, 25, 26, 27, 28], [0, 1, 2, 3, 4, 5, 6, 7, 8, 9, 10, 11, 12, 13, 14, 15, 16, 17, 18, 19, 20, 21, 22, 23, 24, 25, 26, 27, 28], [0, 1, 2, 3, 4, 5, 6, 7, 8, 9, 10, 11, 12, 13, 14, 15, 16, 17, 18, 19, 20, 21, 22, 23, 24, 25, 26, 27, 28], [0, 1, 2, 3, 4, 5, 6, 7, 8, 9, 10, 11, 12, 13, 14, 15, 16, 17, 18, 19, 20, 21, 22, 23, 24, 25, 26, 27, 28, 29, 30, 31], [0, 1, 2, 3, 4, 5, 6, 7, 8, 9, 10, 11, 12, 13, 14, 15, 16, 17, 18, 19, 20, 21, 22, 23, 24, 25, 26, 27, 28, 29, 30, 31, 32], [0, 1, 2, 3, 4, 5, 6, 7, 8, 9, 10, 11, 12, 13, 14, 15, 16, 17, 18, 19, 20, 21, 22, 23, 24, 25, 26, 27, 28, 29, 30, 31, 32, 33], [0, 1, 2, 3, 4, 5, 6, 7, 8, 9, 10, 11, 12, 13, 14, 15, 16, 17, 18, 19, 20, 21, 22, 23, 24, 25, 26, 27, 28, 29, 30, 31, 32, 33, 34]])) (rs := [some (.no), some (.no), some (.no), some (.call (.int .i64 r_1_3) [] 1), some (.no), some (.no), some (.no), some (.call (.int .i64 r_1_7) [] 1), some (.no), some (.no), some (.no), some (.no), some (.no), some (.no), some (.no), some (.no), some (.no), some (.call (.bool r_1_17) [] 1), some (.no), some (.cond false), some (.no), none, none, none, none, none, some (.cond true), some (.cond true), some (.no), some (.no), some (.no), some (.no), some (.call (.int .i64 r_1_32) [] 1), some (.no), some (.cond true), some (.no)]) (kt := [6]) (ko := []) (T' := [(6, .bool (decide (r_1_32 ≥ 0)))]) (O' := []) (by kernel_rfl) (And.intro (spec_l1Add_s _ _ hr_1_3) (And.intro bod_153 (And.intro (Or.inl rfl : ([] : List Nat) = [] ∨ noSh (.int .i64 r_1_3) = true) (And.intro (spec_l1Add_s _ _ hr_1_7) (And.intro bod_153 (And.intro (Or.inl rfl : ([] : List Nat) = [] ∨ noSh (.int .i64 r_1_7) = true) (And.intro hb_1_0 (And.intro hb_1_0 (And.intro hb_1_0 (And.intro hb_1_0 (And.intro hb_1_1 (And.intro hb_1_1 (And.intro hb_1_1 (And.intro hb_1_1 (And.intro (spec_l1Le_s _ _ hr_1_17) (And.intro bod_155 (And.intro (Or.inl rfl : ([] : List Nat) = [] ∨ noSh (.bool r_1_17) = true) (And.intro hb_1_1 (And.intro hb_1_0 (And.intro hb_1_1 (And.intro hb_1_0 (And.intro (neF (nT hb_1_2) : (!r_1_17) ≠ false) (And.intro (neF (nT hb_1_2) : (!r_1_17) ≠ false) (And.intro (neF (nT hb_1_2) : (!r_1_17) ≠ false) (And.intro (neF (nT hb_1_2) : (!r_1_17) ≠ false) (And.intro (neF (nT hb_1_2) : (!r_1_17) ≠ false) (And.intro hb_1_0 (And.intro (nT hb_1_2) (And.intro hb_1_0 (And.intro (rfl : true = true) (And.intro (rfl : true = true) (And.intro (rfl : true = true) (And.intro (rfl : true = true) (And.intro (spec_l1Join_s _ _ hr_1_32) (And.intro bod_166 (And.intro (Or.inl rfl : ([] : List Nat) = [] ∨ noSh (.int .i64 r_1_32) = true) (And.intro (rfl : true = true) (And.intro (rfl : true = true) trivial)))))))))))))))))))))))))))))))))))))) (by kernel_rfl) (by kernel_rfl) ?_
          obtain rfl := Option.some.inj h
          exact Into.mk
    · refine Wp.reg tiok mix hc (by kernel_rfl) (ah := (some [[], [], [], [0, 1, 2], [], [], [], [0, 1, 2, 3, 4, 5, 6], [0, 1, 2, 3, 4, 5, 6, 7], [0, 1, 2, 3, 4, 5, 6, 7, 8], [0, 1, 2, 3, 4, 5, 6, 7, 8, 9], [0, 1, 2, 3, 4, 5, 6, 7, 8, 9], [0, 1, 2, 3, 4, 5, 6, 7, 8, 9, 10, 11], [0, 1, 2, 3, 4, 5, 6, 7, 8, 9, 10, 11, 12], [0, 1, 2, 3, 4, 5, 6, 7, 8, 9, 10, 11, 12, 13], [0, 1, 2, 3, 4, 5, 6, 7, 8, 9, 10, 11, 12, 13], [0, 1, 2, 3, 4, 5, 6, 7, 8, 9, 10, 11, 12, 13], [0, 1, 2, 3, 4, 5, 6, 7, 8, 9, 10, 11, 12, 13, 14, 15, 16], [0, 1, 2, 3, 4, 5, 6, 7, 8, 9, 10, 11, 12, 13, 14, 15, 16, 17], [0, 1, 2, 3, 4, 5, 6, 7, 8, 9, 10, 11, 12, 13, 14, 15, 16, 17, 18], [0, 1, 2, 3, 4, 5, 6, 7, 8, 9, 10, 11, 12, 13, 14, 15, 16, 17, 18, 19], [0, 1, 2, 3, 4, 5, 6, 7, 8, 9, 10, 11, 12, 13, 14, 15, 16, 17, 18, 19, 20], [0, 1, 2, 3, 4, 5, 6, 7, 8, 9, 10, 11, 12, 13, 14, 15, 16, 17, 18, 19, 20], [0, 1, 2, 3, 4, 5, 6, 7, 8, 9, 10, 11, 12, 13, 14, 15, 16, 17, 18, 19, 20], [0, 1, 2, 3, 4, 5, 6, 7, 8, 9, 10, 11, 12, 13, 14, 15, 16, 17, 18, 19, 20, 21, 22, 23], [0, 1, 2, 3, 4, 5, 6, 7, 8, 9, 10, 11, 12, 13, 14, 15, 16, 17, 18, 19, 20, 21, 22, 23, 24], [0, 1, 2, 3, 4, 5, 6, 7, 8, 9, 10, 11, 12, 13, 14, 15, 16, 17, 18, 19, 20, 21, 22, 23, 24, 25], [0, 1, 2, 3, 4, 5, 6, 7, 8, 9, 10, 11, 12, 13, 14, 15, 16, 17, 18, 19, 20, 21, 22, 23, 24, 25, 26], [0, 1, 2, 3, 4, 5, 6, 7, 8, 9, 10, 11, 12, 13, 14, 15, 16, 17, 18, 19, 20, 21, 22, 23, 24, 25, 26, 27], [0, 1, 2, 3, 4, 5, 6, 7, 8, 9, 10, 11, 12, 13, 14, 15, 16, 17, 18, 19, 20, 21, 22, 23, 24, 25, 26, 27, 28], [0, 1, 2, 3, 4, 5, 6, 7, 8, 9, 10, 11, 12, 13, 14, 15, 16, 17, 18, 19, 20, 21, 22, 23, 24, 25, 26, 27, 28], [0, 1, 2, 3, 4, 5, 6, 7, 8, 9, 10, 11, 12, 13, 14, 15, 16, 17, 18, 19, 20, 21, 22, 23, 24, 25, 26, 27, 28], [0, 1, 2, 3, 4, 5, 6, 7, 8, 9, 10, 11, 12, 13, 14, 15, 16, 17, 18, 19, 20, 21, 22, 23, 24, 25, 26, 27, 28, 29, 30, 31], [0, 1, 2, 3, 4, 5, 6, 7, 8, 9, 10, 11, 12, 13, 14, 15, 16, 17, 18, 19, 20, 21, 22, 23, 24, 25, 26, 27, 28, 29, 30, 31, 32], [0, 1, 2, 3, 4, 5, 6, 7, 8, 9, 10, 11, 12, 13, 14, 15, 16, 17, 18, 19, 20, 21, 22, 23, 24, 25, 26, 27, 28, 29, 30, 31, 32, 33], [0, 1, 2, 3, 4, 5, 6, 7, 8, 9, 10, 11, 12, 13, 14, 15, 16, 17, 18, 19, 20, 21, 22, 23, 24, 25, 26, 27, 28, 29, 30, 31, 32, 33, 34]])) (rs := [some (.no), some (.no), some (.no), some (.call (.int .i64 r_1_3) [] 1), some (.no), some (.no), some (.no), some (.call (.int .i64 r_1_7) [] 1), some (.no), some (.no), none, none, none, none, none, none, none, none, none, none, none, none, none, none, none, none, none, some (.cond false), some (.no), none, none, none, none, none, some (.cond false), some (.no)]) (kt := [6]) (ko := []) (T' := [(6, .bool false)]) (O' := []) (by kernel_rfl) (And.intro (spec_l1Add_s _ _ hr_1_3) (And.intro bod_153 (And.intro (Or.inl rfl : ([] : List Nat) = [] ∨ noSh (.int .i64 r_1_3) = true) (And.intro (spec_l1Add_s _ _ hr_1_7) (And.intro bod_153 (And.intro (Or.inl rfl : ([] : List Nat) = [] ∨ noSh (.int .i64 r_1_7) = true) (And.intro (neT hb_1_0 : (r_1_3 == r_1_7) ≠ true) (And.intro (neT hb_1_0 : (r_1_3 == r_1_7) ≠ true) (And.intro (neT hb_1_0 : (r_1_3 == r_1_7) ≠ true) (And.intro (neT hb_1_0 : (r_1_3 == r_1_7) ≠ true) (And.intro (neT hb_1_0 : (r_1_3 == r_1_7) ≠ true) (And.intro (neT hb_1_0 : (r_1_3 == r_1_7) ≠ true) (And.intro (neT hb_1_0 : (r_1_3 == r_1_7) ≠ true) (And.intro hb_1_0 (And.intro (neT (rfl : false = false) : false ≠ true) (And.intro (neT (rfl : false = false) : false ≠ true) (And.intro (neT (rfl : false = false) : false ≠ true) (And.intro (neT (rfl : false = false) : false ≠ true) (And.intro (neT (rfl : false = false) : false ≠ true) (And.intro (rfl : false = false) trivial)))))))))))))))))))) (by kernel_rfl) (by kernel_rfl) ?_
      obtain rfl := Option.some.inj h
      exact Into.mk
  · clear hj_2
    refine seqQ_norm ?_
    refine Wp.retN (by kernel_rfl) ?_
    obtain rfl := Option.some.inj h
    exact RetQ.ret (fl := [true]) (by kernel_rfl)
def spec_l1Three (p : GSystem × Int × Int × Int) : Option (Bool) :=
  match p with
  | (s0, a1, b2, c3) =>
    (
      (spec_l1Add (s0, a1, b2)) >>= fun r_1_4 =>
      (spec_l1Add (s0, r_1_4, c3)) >>= fun r_1_6 =>
      (spec_l1Add (s0, b2, c3)) >>= fun r_1_12 =>
      (spec_l1Add (s0, a1, r_1_12)) >>= fun r_1_13 =>
      if (r_1_6 != r_1_13) = true then
        some (true)
      else
        (spec_l1Mul (s0, a1, b2)) >>= fun r_1_20 =>
        (spec_l1Mul (s0, r_1_20, c3)) >>= fun r_1_22 =>
        (spec_l1Mul (s0, b2, c3)) >>= fun r_1_28 =>
        (spec_l1Mul (s0, a1, r_1_28)) >>= fun r_1_29 =>
        some ((r_1_22 != r_1_29))
    ) >>= fun v_1 =>
    if v_1 = true then
      some false
    else
      (
        (spec_l1Add (s0, b2, c3)) >>= fun r_3_5 =>
        (spec_l1Mul (s0, a1, r_3_5)) >>= fun r_3_6 =>
        (spec_l1Mul (s0, a1, b2)) >>= fun r_3_11 =>
        (spec_l1Mul (s0, a1, c3)) >>= fun r_3_15 =>
        (spec_l1Add (s0, r_3_11, r_3_15)) >>= fun r_3_16 =>
        if (r_3_6 != r_3_16) = true then
          some (true)
        else
          (spec_l1Add (s0, a1, b2)) >>= fun r_3_23 =>
          (spec_l1Mul (s0, r_3_23, c3)) >>= fun r_3_25 =>
          (spec_l1Mul (s0, a1, c3)) >>= fun r_3_30 =>
          (spec_l1Mul (s0, b2, c3)) >>= fun r_3_34 =>
          (spec_l1Add (s0, r_3_30, r_3_34)) >>= fun r_3_35 =>
          some ((r_3_25 != r_3_35))
      ) >>= fun v_4 =>
      if v_4 = true then
        some false
      else
        (spec_l1Le (s0, a1, b2)) >>= fun r_5_3 =>
        if r_5_3 = true then
          (
            (spec_l1Le (s0, b2, c3)) >>= fun r_7_3 =>
            if r_7_3 = true then
              (spec_l1Le (s0, a1, c3)) >>= fun r_7_8 =>
              some ((!r_7_8))
            else
              some (false)
          ) >>= fun v_8 =>
          if v_8 = true then
            some false
          else
            (
              (spec_l1Add (s0, a1, c3)) >>= fun r_9_4 =>
              (spec_l1Add (s0, b2, c3)) >>= fun r_9_8 =>
              (spec_l1Le (s0, r_9_4, r_9_8)) >>= fun r_9_9 =>
              if r_9_9 = true then
                (spec_l1Mul (s0, a1, c3)) >>= fun r_9_15 =>
                (spec_l1Mul (s0, b2, c3)) >>= fun r_9_19 =>
                (spec_l1Le (s0, r_9_15, r_9_19)) >>= fun r_9_20 =>
                if r_9_20 = true then
                  (spec_l1Mul (s0, c3, a1)) >>= fun r_9_27 =>
                  (spec_l1Mul (s0, c3, b2)) >>= fun r_9_31 =>
                  (spec_l1Le (s0, r_9_27, r_9_31)) >>= fun r_9_32 =>
                  some (r_9_32)
                else
                  some (false)
              else
                some (false)
            ) >>= fun v_11 =>
            some v_11
        else
          some true
def M_spec_l1Three (p : GSystem × Int × Int × Int) (r : Bool) : Prop :=
  match p with
  | (s0, a1, b2, c3) => FnSound Try.prog 148 [.agg [.int .i64 s0.fSize, .sl (List.map I s0.fPlus), .sl (List.map I s0.fTimes), .sl (List.map AV.bool s0.fBelow)], .int .i64 a1, .int .i64 b2, .int .i64 c3] (.bool r) []
theorem spec_l1Three_s : ∀ p r, spec_l1Three p = some r → M_spec_l1Three p r := by
  rintro ⟨s0, a1, b2, c3⟩ r h
  unfold spec_l1Three at h
  show FnSound Try.prog 148 [.agg [.int .i64 s0.fSize, .sl (List.map I s0.fPlus), .sl (List.map I s0.fTimes), .sl (List.map AV.bool s0.fBelow)], .int .i64 a1, .int .i64 b2, .int .i64 c3] (.bool r) []
  refine FnSound.body0 tiok (fn := Try.f148) (code := B148) (by kernel_rfl) (by kernel_rfl) (by kernel_rfl) (by kernel_rfl) (nt := 129) (by kernel_rfl) (by kernel_rfl) (T := [(0, .agg [.int .i64 s0.fSize, .sl (List.map I s0.fPlus), .sl (List.map I s0.fTimes), .sl (List.map AV.bool s0.fBelow)]), (1, .int .i64 a1), (2, .int .i64 b2), (3, .int .i64 c3)]) (O := []) (by kernel_rfl) (by kernel_rfl) (fun c hc => ?_)
  refine Wp.seqN (by kernel_rfl) ?_
  refine Wp.reg tiok mix hc (by kernel_rfl) (ah := none) (rs := [some (.new 1), some (.no)]) (kt := [1, 2, 3, 4]) (ko := [1]) (T' := [(1, .int .i64 a1), (2, .int .i64 b2), (3, .int .i64 c3), (4, .ra 1 0)]) (O' := [(1, .box [.int .i64 s0.fSize, .sl (List.map I s0.fPlus), .sl (List.map I s0.fTimes), .sl (List.map AV.bool s0.fBelow)])]) (by kernel_rfl) trivial (by kernel_rfl) (by kernel_rfl) ?_
  refine seqQ_norm ?_
  refine Wp.seqN (by kernel_rfl) ?_
  refine Wp.seqN (by kernel_rfl) ?_
  obtain ⟨v_1, hj_2, h⟩ := bsome h
  refine Wp.into (x := .normal) (mkS [(1, .int .i64 a1), (2, .int .i64 b2), (3, .int .i64 c3), (4, .ra 1 0), (40, .bool v_1)] [(1, .box [.int .i64 s0.fSize, .sl (List.map I s0.fPlus), .sl (List.map I s0.fTimes), .sl (List.map AV.bool s0.fBelow)])]) ?_ ?_
  · replace h := hj_2
    obtain ⟨r_1_4, hr_1_4, h⟩ := bsome h
    obtain ⟨r_1_6, hr_1_6, h⟩ := bsome h
    obtain ⟨r_1_12, hr_1_12, h⟩ := bsome h
    obtain ⟨r_1_13, hr_1_13, h⟩ := bsome h
    rcases itesome h with ⟨hb_1_0, h⟩ | ⟨hb_1_0, h⟩
    · refine Wp.reg tiok mix hc (by kernel_rfl) (ah := (some [[], [], [], [], [1, 2, 3], [], [0, 1, 2, 3, 4, 5], [], [], [], [], [], [0, 1, 2, 3, 4, 5, 6, 9, 10, 11], [0, 1, 2, 3, 4, 5, 6, 7, 8, 9, 10, 11, 12], [0, 1, 2, 3, 4, 5, 6, 7, 8, 9, 10, 11, 12, 13], [0, 1, 2, 3, 4, 5, 6, 7, 8, 9, 10, 11, 12, 13, 14], [0, 1, 2, 3, 4, 5, 6, 7, 8, 9, 10, 11, 12, 13, 14, 15], [0, 1, 2, 3, 4, 5, 6, 7, 8, 9, 10, 11, 12, 13, 14, 15], [0, 1, 2, 3, 4, 5, 6, 7, 8, 9, 10, 11, 12, 13, 14, 15], [0, 1, 2, 3, 4, 5, 6, 7, 8, 9, 10, 11, 12, 13, 14, 15], [0, 1, 2, 3, 4, 5, 6, 7, 8, 9, 10, 11, 12, 13, 14, 15, 17, 18, 19], [0, 1, 2, 3, 4, 5, 6, 7, 8, 9, 10, 11, 12, 13, 14, 15], [0, 1, 2, 3, 4, 5, 6, 7, 8, 9, 10, 11, 12, 13, 14, 15, 16, 17, 18, 19, 20, 21], [0, 1, 2, 3, 4, 5, 6, 7, 8, 9, 10, 11, 12, 13, 14, 15], [0, 1, 2, 3, 4, 5, 6, 7, 8, 9, 10, 11, 12, 13, 14, 15], [0, 1, 2, 3, 4, 5, 6, 7, 8, 9, 10, 11, 12, 13, 14, 15], [0, 1, 2, 3, 4, 5, 6, 7, 8, 9, 10, 11, 12, 13, 14, 15], [0, 1, 2, 3, 4, 5, 6, 7, 8, 9, 10, 11, 12, 13, 14, 15], [0, 1, 2, 3, 4, 5, 6, 7, 8, 9, 10, 11, 12, 13, 14, 15, 16, 17, 18, 19, 20, 21, 22, 25, 26, 27], [0, 1, 2, 3, 4, 5, 6, 7, 8, 9, 10, 11, 12, 13, 14, 15, 16, 17, 18, 19, 20, 21, 22, 23, 24, 25, 26, 27, 28], [0, 1, 2, 3, 4, 5, 6, 7, 8, 9, 10, 11, 12, 13, 14, 15, 16, 17, 18, 19, 20, 21, 22, 23, 24, 25, 26, 27, 28, 29], [0, 1, 2, 3, 4, 5, 6, 7, 8, 9, 10, 11, 12, 13, 14, 15, 16, 17, 18, 19, 20, 21, 22, 23, 24, 25, 26, 27, 28, 29, 30]])) (rs := [some (.no), some (.no), some (.no), some (.no), some (.call (.int .i64 r_1_4) [] 1), some (.no), some (.call (.int .i64 r_1_6) [] 1), some (.no), some (.no), some (.no), some (.no), some (.no), some (.call (.int .i64 r_1_12) [] 1), some (.call (.int .i64 r_1_13) [] 1), some (.no), some (.no), none, none, none, none, none, none, none, none, none, none, none, none, none, none, none, some (.cond true)]) (kt := [1, 2, 3, 4, 40]) (ko := [1]) (T' := [(1, .int .i64 a1), (2, .int .i64 b2), (3, .int .i64 c3), (4, .ra 1 0), (40, .bool true)]) (O' := [(1, .box [.int .i64 s0.fSize, .sl (List.map I s0.fPlus), .sl (List.map I s0.fTimes), .sl (List.map AV.bool s0.fBelow)])]) (by kernel_rfl) (And.intro (spec_l1Add_s _ _ hr_1_4) (And.intro bod_153 (And.intro (Or.inl rfl : ([] : List Nat) = [] ∨ noSh (.int .i64 r_1_4) = true) (And.intro (spec_l1Add_s _ _ hr_1_6) (And.intro bod_153 (And.intro (Or.inl rfl : ([] : List Nat) = [] ∨ noSh (.int .i64 r_1_6) = true) (And.intro (spec_l1Add_s _ _ hr_1_12) (And.intro bod_153 (And.intro (Or.inl rfl : ([] : List Nat) = [] ∨ noSh (.int .i64 r_1_12) = true) (And.intro (spec_l1Add_s _ _ hr_1_13) (And.intro bod_153 (And.intro (Or.inl rfl : ([] : List Nat) = [] ∨ noSh (.int .i64 r_1_13) = true) (And.intro (neF hb_1_0 : (r_1_6 != r_1_13) ≠ false) (And.intro (neF hb_1_0 : (r_1_6 != r_1_13) ≠ false) (And.intro (neF hb_1_0 : (r_1_6 != r_1_13) ≠ false) (And.intro (neF hb_1_0 : (r_1_6 != r_1_13) ≠ false) (And.intro (neF hb_1_0 : (r_1_6 != r_1_13) ≠ false) (And.intro (neF hb_1_0 : (r_1_6 != r_1_13) ≠ false) (And.intro (neF hb_1_0 : (r_1_6 != r_1_13) ≠ false) (And.intro (neF hb_1_0 : (r_1_6 != r_1_13) ≠ false) (And.intro (neF hb_1_0 : (r_1_6 != r_1_13) ≠ false) (And.intro (neF hb_1_0 : (r_1_6 != r_1_13) ≠ false) (And.intro (neF hb_1_0 : (r_1_6 != r_1_13) ≠ false) (And.intro (neF hb_1_0 : (r_1_6 != r_1_13) ≠ false) (And.intro (neF hb_1_0 : (r_1_6 != r_1_13) ≠ false) (And.intro (neF hb_1_0 : (r_1_6 != r_1_13) ≠ false) (And.intro (neF hb_1_0 : (r_1_6 != r_1_13) ≠ false) (And.intro hb_1_0 trivial)))))))))))))))))))))))))))) (by kernel_rfl) (by kernel_rfl) ?_
      obtain rfl := Option.some.inj h
      exact Into.mk
    · obtain ⟨r_1_20, hr_1_20, h⟩ := bsome h
      obtain ⟨r_1_22, hr_1_22, h⟩ := bsome h
      obtain ⟨r_1_28, hr_1_28, h⟩ := bsome h
      obtain ⟨r_1_29, hr_1_29, h⟩ := bsome h
      refine Wp.reg tiok mix hc (by kernel_rfl) (ah := (some [[], [], [], [], [1, 2, 3], [], [0, 1, 2, 3, 4, 5], [], [], [], [], [], [0, 1, 2, 3, 4, 5, 6, 9, 10, 11], [0, 1, 2, 3, 4, 5, 6, 7, 8, 9, 10, 11, 12], [0, 1, 2, 3, 4, 5, 6, 7, 8, 9, 10, 11, 12, 13], [0, 1, 2, 3, 4, 5, 6, 7, 8, 9, 10, 11, 12, 13, 14], [0, 1, 2, 3, 4, 5, 6, 7, 8, 9, 10, 11, 12, 13, 14, 15], [0, 1, 2, 3, 4, 5, 6, 7, 8, 9, 10, 11, 12, 13, 14, 15], [0, 1, 2, 3, 4, 5, 6, 7, 8, 9, 10, 11, 12, 13, 14, 15], [0, 1, 2, 3, 4, 5, 6, 7, 8, 9, 10, 11, 12, 13, 14, 15], [0, 1, 2, 3, 4, 5, 6, 7, 8, 9, 10, 11, 12, 13, 14, 15, 17, 18, 19], [0, 1, 2, 3, 4, 5, 6, 7, 8, 9, 10, 11, 12, 13, 14, 15], [0, 1, 2, 3, 4, 5, 6, 7, 8, 9, 10, 11, 12, 13, 14, 15, 16, 17, 18, 19, 20, 21], [0, 1, 2, 3, 4, 5, 6, 7, 8, 9, 10, 11, 12, 13, 14, 15], [0, 1, 2, 3, 4, 5, 6, 7, 8, 9, 10, 11, 12, 13, 14, 15], [0, 1, 2, 3, 4, 5, 6, 7, 8, 9, 10, 11, 12, 13, 14, 15], [0, 1, 2, 3, 4, 5, 6, 7, 8, 9, 10, 11, 12, 13, 14, 15], [0, 1, 2, 3, 4, 5, 6, 7, 8, 9, 10, 11, 12, 13, 14, 15], [0, 1, 2, 3, 4, 5, 6, 7, 8, 9, 10, 11, 12, 13, 14, 15, 16, 17, 18, 19, 20, 21, 22, 25, 26, 27], [0, 1, 2, 3, 4, 5, 6, 7, 8, 9, 10, 11, 12, 13, 14, 15, 16, 17, 18, 19, 20, 21, 22, 23, 24, 25, 26, 27, 28], [0, 1, 2, 3, 4, 5, 6, 7, 8, 9, 10, 11, 12, 13, 14, 15, 16, 17, 18, 19, 20, 21, 22, 23, 24, 25, 26, 27, 28, 29], [0, 1, 2, 3, 4, 5, 6, 7, 8, 9, 10, 11, 12, 13, 14, 15, 16, 17, 18, 19, 20, 21, 22, 23, 24, 25, 26, 27, 28, 29, 30]])) (rs := [some (.no), some (.no), some (.no), some (.no), some (.call (.int .i64 r_1_4) [] 1), some (.no), some (.call (.int .i64 r_1_6) [] 1), some (.no), some (.no), some (.no), some (.no), some (.no), some (.call (.int .i64 r_1_12) [] 1), some (.call (.int .i64 r_1_13) [] 1), some (.no), some (.no), some (.no), some (.no), some (.no), some (.no), some (.call (.int .i64 r_1_20) [] 1), some (.no), some (.call (.int .i64 r_1_22) [] 1), some (.no), some (.no), some (.no), some (.no), some (.no), some (.call (.int .i64 r_1_28) [] 1), some (.call (.int .i64 r_1_29) [] 1), some (.no), some (.cond false)]) (kt := [1, 2, 3, 4, 40]) (ko := [1]) (T' := [(1, .int .i64 a1), (2, .int .i64 b2), (3, .int .i64 c3), (4, .ra 1 0), (40, .bool (r_1_22 != r_1_29))]) (O' := [(1, .box [.int .i64 s0.fSize, .sl (List.map I s0.fPlus), .sl (List.map I s0.fTimes), .sl (List.map AV.bool s0.fBelow)])]) (by kernel_rfl) (And.intro (spec_l1Add_s _ _ hr_1_4) (And.intro bod_153 (And.intro (Or.inl rfl : ([] : List Nat) = [] ∨ noSh (.int .i64 r_1_4) = true) (And.intro (spec_l1Add_s _ _ hr_1_6) (And.intro bod_153 (And.intro (Or.inl rfl : ([] : List Nat) = [] ∨ noSh (.int .i64 r_1_6) = true) (And.intro (spec_l1Add_s _ _ hr_1_12) (And.intro bod_153 (And.intro (Or.inl rfl : ([] : List Nat) = [] ∨ noSh (.int .i64 r_1_12) = true) (And.intro (spec_l1Add_s _ _ hr_1_13) (And.intro bod_153 (And.intro (Or.inl rfl : ([] : List Nat) = [] ∨ noSh (.int .i64 r_1_13) = true) (And.intro hb_1_0 (And.intro hb_1_0 (And.intro hb_1_0 (And.intro hb_1_0 (And.intro hb_1_0 (And.intro (spec_l1Mul_s _ _ hr_1_20) (And.intro bod_154 (And.intro (Or.inl rfl : ([] : List Nat) = [] ∨ noSh (.int .i64 r_1_20) = true) (And.intro hb_1_0 (And.intro hb_1_0 (And.intro (spec_l1Mul_s _ _ hr_1_22) (And.intro bod_154 (And.intro (Or.inl rfl : ([] : List Nat) = [] ∨ noSh (.int .i64 r_1_22) = true) (And.intro hb_1_0 (And.intro hb_1_0 (And.intro hb_1_0 (And.intro hb_1_0 (And.intro hb_1_0 (And.intro hb_1_0 (And.intro (spec_l1Mul_s _ _ hr_1_28) (And.intro bod_154 (And.intro (Or.inl rfl : ([] : List Nat) = [] ∨ noSh (.int .i64 r_1_28) = true) (And.intro hb_1_0 (And.intro (spec_l1Mul_s _ _ hr_1_29) (And.intro bod_154 (And.intro (Or.inl rfl : ([] : List Nat) = [] ∨ noSh (.int .i64 r_1_29) = true) (And.intro hb_1_0 (And.intro hb_1_0 trivial)))))))))))))))))))))))))))))))))))))))) (by kernel_rfl) (by kernel_rfl) ?_
      obtain rfl := Option.some.inj h
      exact Into.mk
  · clear hj_2
    refine seqQ_norm ?_
    rcases itesome h with ⟨hb_3, h⟩ | ⟨hb_3, h⟩
    · refine Wp.condT (b := v_1) (by kernel_rfl) (by kernel_rfl) hb_3 ?_
      refine Wp.seqN (by kernel_rfl) ?_
      refine Wp.reg tiok mix hc (by kernel_rfl) (ah := none) (rs := [some (.no)]) (kt := [8]) (ko := []) (T' := [(8, .bool false)]) (O' := []) (by kernel_rfl) trivial (by kernel_rfl) (by kernel_rfl) ?_
      refine seqQ_norm ?_
      refine Wp.retN (by kernel_rfl) ?_
      refine seqQ_ret ?_
      obtain rfl := Option.some.inj h
      exact RetQ.ret (fl := [true]) (by kernel_rfl)
    · refine Wp.condF (b := v_1) (by kernel_rfl) (by kernel_rfl) hb_3 ?_
      refine Wp.skipN (by kernel_rfl) ?_
      refine seqQ_norm ?_
      refine Wp.seqN (by kernel_rfl) ?_
      refine Wp.seqN (by kernel_rfl) ?_
      obtain ⟨v_4, hj_5, h⟩ := bsome h
      refine Wp.into (x := .normal) (mkS [(1, .int .i64 a1), (2, .int .i64 b2), (3, .int .i64 c3), (4, .ra 1 0), (78, .bool v_4)] [(1, .box [.int .i64 s0.fSize, .sl (List.map I s0.fPlus), .sl (List.map I s0.fTimes), .sl (List.map AV.bool s0.fBelow)])]) ?_ ?_
      · replace h := hj_5
        obtain ⟨r_3_5, hr_3_5, h⟩ := bsome h
        obtain ⟨r_3_6, hr_3_6, h⟩ := bsome h
        obtain ⟨r_3_11, hr_3_11, h⟩ := bsome h
        obtain ⟨r_3_15, hr_3_15, h⟩ := bsome h
        obtain ⟨r_3_16, hr_3_16, h⟩ := bsome h
        rcases itesome h with ⟨hb_3_0, h⟩ | ⟨hb_3_0, h⟩
        · refine Wp.reg tiok mix hc (by kernel_rfl) (ah := (some [[], [], [], [], [], [2, 3, 4], [0, 1, 2, 3, 4, 5], [], [], [], [], [0, 1, 2, 3, 4, 5, 6, 8, 9, 10], [], [], [], [0, 1, 2, 3, 4, 5, 6, 8, 9, 10, 11, 12, 13, 14], [0, 1, 2, 3, 4, 5, 6, 7, 8, 9, 10, 11, 12, 13, 14, 15], [0, 1, 2, 3, 4, 5, 6, 7, 8, 9, 10, 11, 12, 13, 14, 15, 16], [0, 1, 2, 3, 4, 5, 6, 7, 8, 9, 10, 11, 12, 13, 14, 15, 16, 17], [0, 1, 2, 3, 4, 5, 6, 7, 8, 9, 10, 11, 12, 13, 14, 15, 16, 17, 18], [0, 1, 2, 3, 4, 5, 6, 7, 8, 9, 10, 11, 12, 13, 14, 15, 16, 17, 18], [0, 1, 2, 3, 4, 5, 6, 7, 8, 9, 10, 11, 12, 13, 14, 15, 16, 17, 18], [0, 1, 2, 3, 4, 5, 6, 7, 8, 9, 10, 11, 12, 13, 14, 15, 16, 17, 18], [0, 1, 2, 3, 4, 5, 6, 7, 8, 9, 10, 11, 12, 13, 14, 15, 16, 17, 18, 20, 21, 22], [0, 1, 2, 3, 4, 5, 6, 7, 8, 9, 10, 11, 12, 13, 14, 15, 16, 17, 18], [0, 1, 2, 3, 4, 5, 6, 7, 8, 9, 10, 11, 12, 13, 14, 15, 16, 17, 18, 19, 20, 21, 22, 23, 24], [0, 1, 2, 3, 4, 5, 6, 7, 8, 9, 10, 11, 12, 13, 14, 15, 16, 17, 18], [0, 1, 2, 3, 4, 5, 6, 7, 8, 9, 10, 11, 12, 13, 14, 15, 16, 17, 18], [0, 1, 2, 3, 4, 5, 6, 7, 8, 9, 10, 11, 12, 13, 14, 15, 16, 17, 18], [0, 1, 2, 3, 4, 5, 6, 7, 8, 9, 10, 11, 12, 13, 14, 15, 16, 17, 18], [0, 1, 2, 3, 4, 5, 6, 7, 8, 9, 10, 11, 12, 13, 14, 15, 16, 17, 18, 19, 20, 21, 22, 23, 24, 25, 27, 28, 29], [0, 1, 2, 3, 4, 5, 6, 7, 8, 9, 10, 11, 12, 13, 14, 15, 16, 17, 18], [0, 1, 2, 3, 4, 5, 6, 7, 8, 9, 10, 11, 12, 13, 14, 15, 16, 17, 18], [0, 1, 2, 3, 4, 5, 6, 7, 8, 9, 10, 11, 12, 13, 14, 15, 16, 17, 18], [0, 1, 2, 3, 4, 5, 6, 7, 8, 9, 10, 11, 12, 13, 14, 15, 16, 17, 18, 19, 20, 21, 22, 23, 24, 25, 27, 28, 29, 30, 31, 32, 33], [0, 1, 2, 3, 4, 5, 6, 7, 8, 9, 10, 11, 12, 13, 14, 15, 16, 17, 18, 19, 20, 21, 22, 23, 24, 25, 26, 27, 28, 29, 30, 31, 32, 33, 34], [0, 1, 2, 3, 4, 5, 6, 7, 8, 9, 10, 11, 12, 13, 14, 15, 16, 17, 18, 19, 20, 21, 22, 23, 24, 25, 26, 27, 28, 29, 30, 31, 32, 33, 34, 35], [0, 1, 2, 3, 4, 5, 6, 7, 8, 9, 10, 11, 12, 13, 14, 15, 16, 17, 18, 19, 20, 21, 22, 23, 24, 25, 26, 27, 28, 29, 30, 31, 32, 33, 34, 35, 36]])) (rs := [some (.no), some (.no), some (.no), some (.no), some (.no), some (.call (.int .i64 r_3_5) [] 1), some (.call (.int .i64 r_3_6) [] 1), some (.no), some (.no), some (.no), some (.no), some (.call (.int .i64 r_3_11) [] 1), some (.no), some (.no), some (.no), some (.call (.int .i64 r_3_15) [] 1), some (.call (.int .i64 r_3_16) [] 1), some (.no), some (.no), none, none, none, none, none, none, none, none, none, none, none, none, none, none, none, none, none, none, some (.cond true)]) (kt := [1, 2, 3, 4, 78]) (ko := [1]) (T' := [(1, .int .i64 a1), (2, .int .i64 b2), (3, .int .i64 c3), (4, .ra 1 0), (78, .bool true)]) (O' := [(1, .box [.int .i64 s0.fSize, .sl (List.map I s0.fPlus), .sl (List.map I s0.fTimes), .sl (List.map AV.bool s0.fBelow)])]) (by kernel_rfl) (And.intro (spec_l1Add_s _ _ hr_3_5) (And.intro bod_153 (And.intro (Or.inl rfl : ([] : List Nat) = [] ∨ noSh (.int .i64 r_3_5) = true) (And.intro (spec_l1Mul_s _ _ hr_3_6) (And.intro bod_154 (And.intro (Or.inl rfl : ([] : List Nat) = [] ∨ noSh (.int .i64 r_3_6) = true) (And.intro (spec_l1Mul_s _ _ hr_3_11) (And.intro bod_154 (And.intro (Or.inl rfl : ([] : List Nat) = [] ∨ noSh (.int .i64 r_3_11) = true) (And.intro (spec_l1Mul_s _ _ hr_3_15) (And.intro bod_154 (And.intro (Or.inl rfl : ([] : List Nat) = [] ∨ noSh (.int .i64 r_3_15) = true) (And.intro (spec_l1Add_s _ _ hr_3_16) (And.intro bod_153 (And.intro (Or.inl rfl : ([] : List Nat) = [] ∨ noSh (.int .i64 r_3_16) = true) (And.intro (neF hb_3_0 : (r_3_6 != r_3_16) ≠ false) (And.intro (neF hb_3_0 : (r_3_6 != r_3_16) ≠ false) (And.intro (neF hb_3_0 : (r_3_6 != r_3_16) ≠ false) (And.intro (neF hb_3_0 : (r_3_6 != r_3_16) ≠ false) (And.intro (neF hb_3_0 : (r_3_6 != r_3_16) ≠ false) (And.intro (neF hb_3_0 : (r_3_6 != r_3_16) ≠ false) (And.intro (neF hb_3_0 : (r_3_6 != r_3_16) ≠ false) (And.intro (neF hb_3_0 : (r_3_6 != r_3_16) ≠ false) (And.intro (neF hb_3_0 : (r_3_6 != r_3_16) ≠ false) (And.intro (neF hb_3_0 : (r_3_6 != r_3_16) ≠ false) (And.intro (neF hb_3_0 : (r_3_6 != r_3_16) ≠ false) (And.intro (neF hb_3_0 : (r_3_6 != r_3_16) ≠ false) (And.intro (neF hb_3_0 : (r_3_6 != r_3_16) ≠ false) (And.intro (neF hb_3_0 : (r_3_6 != r_3_16) ≠ false) (And.intro (neF hb_3_0 : (r_3_6 != r_3_16) ≠ false) (And.intro (neF hb_3_0 : (r_3_6 != r_3_16) ≠ false) (And.intro (neF hb_3_0 : (r_3_6 != r_3_16) ≠ false) (And.intro (neF hb_3_0 : (r_3_6 != r_3_16) ≠ false) (And.intro hb_3_0 trivial)))))))))))))))))))))))))))))))))) (by kernel_rfl) (by kernel_rfl) ?_
          obtain rfl := Option.some.inj h
          exact Into.mk
        · obtain ⟨r_3_23, hr_3_23, h⟩ := bsome h
          obtain ⟨r_3_25, hr_3_25, h⟩ := bsome h
          obtain ⟨r_3_30, hr_3_30, h⟩ := bsome h
          obtain ⟨r_3_34, hr_3_34, h⟩ := bsome h
          obtain ⟨r_3_35, hr_3_35, h⟩ := bsome h
          refine Wp.reg tiok mix hc (by kernel_rfl) (ah := (some [[], [], [], [], [], [2, 3, 4], [0, 1, 2, 3, 4, 5], [], [], [], [], [0, 1, 2, 3, 4, 5, 6, 8, 9, 10], [], [], [], [0, 1, 2, 3, 4, 5, 6, 8, 9, 10, 11, 12, 13, 14], [0, 1, 2, 3, 4, 5, 6, 7, 8, 9, 10, 11, 12, 13, 14, 15], [0, 1, 2, 3, 4, 5, 6, 7, 8, 9, 10, 11, 12, 13, 14, 15, 16], [0, 1, 2, 3, 4, 5, 6, 7, 8, 9, 10, 11, 12, 13, 14, 15, 16, 17], [0, 1, 2, 3, 4, 5, 6, 7, 8, 9, 10, 11, 12, 13, 14, 15, 16, 17, 18], [0, 1, 2, 3, 4, 5, 6, 7, 8, 9, 10, 11, 12, 13, 14, 15, 16, 17, 18], [0, 1, 2, 3, 4, 5, 6, 7, 8, 9, 10, 11, 12, 13, 14, 15, 16, 17, 18], [0, 1, 2, 3, 4, 5, 6, 7, 8, 9, 10, 11, 12, 13, 14, 15, 16, 17, 18], [0, 1, 2, 3, 4, 5, 6, 7, 8, 9, 10, 11, 12, 13, 14, 15, 16, 17, 18, 20, 21, 22], [0, 1, 2, 3, 4, 5, 6, 7, 8, 9, 10, 11, 12, 13, 14, 15, 16, 17, 18], [0, 1, 2, 3, 4, 5, 6, 7, 8, 9, 10, 11, 12, 13, 14, 15, 16, 17, 18, 19, 20, 21, 22, 23, 24], [0, 1, 2, 3, 4, 5, 6, 7, 8, 9, 10, 11, 12, 13, 14, 15, 16, 17, 18], [0, 1, 2, 3, 4, 5, 6, 7, 8, 9, 10, 11, 12, 13, 14, 15, 16, 17, 18], [0, 1, 2, 3, 4, 5, 6, 7, 8, 9, 10, 11, 12, 13, 14, 15, 16, 17, 18], [0, 1, 2, 3, 4, 5, 6, 7, 8, 9, 10, 11, 12, 13, 14, 15, 16, 17, 18], [0, 1, 2, 3, 4, 5, 6, 7, 8, 9, 10, 11, 12, 13, 14, 15, 16, 17, 18, 19, 20, 21, 22, 23, 24, 25, 27, 28, 29], [0, 1, 2, 3, 4, 5, 6, 7, 8, 9, 10, 11, 12, 13, 14, 15, 16, 17, 18], [0, 1, 2, 3, 4, 5, 6, 7, 8, 9, 10, 11, 12, 13, 14, 15, 16, 17, 18], [0, 1, 2, 3, 4, 5, 6, 7, 8, 9, 10, 11, 12, 13, 14, 15, 16, 17, 18], [0, 1, 2, 3, 4, 5, 6, 7, 8, 9, 10, 11, 12, 13, 14, 15, 16, 17, 18, 19, 20, 21, 22, 23, 24, 25, 27, 28, 29, 30, 31, 32, 33], [0, 1, 2, 3, 4, 5, 6, 7, 8, 9, 10, 11, 12, 13, 14, 15, 16, 17, 18, 19, 20, 21, 22, 23, 24, 25, 26, 27, 28, 29, 30, 31, 32, 33, 34], [0, 1, 2, 3, 4, 5, 6, 7, 8, 9, 10, 11, 12, 13, 14, 15, 16, 17, 18, 19, 20, 21, 22, 23, 24, 25, 26, 27, 28, 29, 30, 31, 32, 33, 34, 35], [0, 1, 2, 3, 4, 5, 6, 7, 8, 9, 10, 11, 12, 13, 14, 15, 16, 17, 18, 19, 20, 21, 22, 23, 24, 25, 26, 27, 28, 29, 30, 31, 32, 33, 34, 35, 36]])) (rs := [some (.no), some (.no), some (.no), some (.no), some (.no), some (.call (.int .i64 r_3_5) [] 1), some (.call (.int .i64 r_3_6) [] 1), some (.no), some (.no), some (.no), some (.no), some (.call (.int .i64 r_3_11) [] 1), some (.no), some (.no), some (.no), some (.call (.int .i64 r_3_15) [] 1), some (.call (.int .i64 r_3_16) [] 1), some (.no), some (.no), some (.no), some (.no), some (.no), some (.no), some (.call (.int .i64 r_3_23) [] 1), some (.no), some (.call (.int .i64 r_3_25) [] 1), some (.no), some (.no), some (.no), some (.no), some (.call (.int .i64 r_3_30) [] 1), some (.no), some (.no), some (.no), some (.call (.int .i64 r_3_34) [] 1), some (.call (.int .i64 r_3_35) [] 1), some (.no), some (.cond false)]) (kt := [1, 2, 3, 4, 78]) (ko := [1]) (T' := [(1, .int .i64 a1), (2, .int .i64 b2), (3, .int .i64 c3), (4, .ra 1 0), (78, .bool (r_3_25 != r_3_35))]) (O' := [(1, .box [.int .i64 s0.fSize, .sl (List.map I s0.fPlus), .sl (List.map I s0.fTimes), .sl (List.map AV.bool s0.fBelow)])]) (by kernel_rfl) (And.intro (spec_l1Add_s _ _ hr_3_5) (And.intro bod_153 (And.intro (Or.inl rfl : ([] : List Nat) = [] ∨ noSh (.int .i64 r_3_5) = true) (And.intro (spec_l1Mul_s _ _ hr_3_6) (And.intro bod_154 (And.intro (Or.inl rfl : ([] : List Nat) = [] ∨ noSh (.int .i64 r_3_6) = true) (And.intro (spec_l1Mul_s _ _ hr_3_11) (And.intro bod_154 (And.intro (Or.inl rfl : ([] : List Nat) = [] ∨ noSh (.int .i64 r_3_11) = true) (And.intro (spec_l1Mul_s _ _ hr_3_15) (And.intro bod_154 (And.intro (Or.inl rfl : ([] : List Nat) = [] ∨ noSh (.int .i64 r_3_15) = true) (And.intro (spec_l1Add_s _ _ hr_3_16) (And.intro bod_153 (And.intro (Or.inl rfl : ([] : List Nat) = [] ∨ noSh (.int .i64 r_3_16) = true) (And.intro hb_3_0 (And.intro hb_3_0 (And.intro hb_3_0 (And.intro hb_3_0 (And.intro hb_3_0 (And.intro (spec_l1Add_s _ _ hr_3_23) (And.intro bod_153 (And.intro (Or.inl rfl : ([] : List Nat) = [] ∨ noSh (.int .i64 r_3_23) = true) (And.intro hb_3_0 (And.intro hb_3_0 (And.intro (spec_l1Mul_s _ _ hr_3_25) (And.intro bod_154 (And.intro (Or.inl rfl : ([] : List Nat) = [] ∨ noSh (.int .i64 r_3_25) = true) (And.intro hb_3_0 (And.intro hb_3_0 (And.intro hb_3_0 (And.intro hb_3_0 (And.intro hb_3_0 (And.intro (spec_l1Mul_s _ _ hr_3_30) (And.intro bod_154 (And.intro (Or.inl rfl : ([] : List Nat) = [] ∨ noSh (.int .i64 r_3_30) = true) (And.intro hb_3_0 (And.intro hb_3_0 (And.intro hb_3_0 (And.intro hb_3_0 (And.intro (spec_l1Mul_s _ _ hr_3_34) (And.intro bod_154 (And.intro (Or.inl rfl : ([] : List Nat) = [] ∨ noSh (.int .i64 r_3_34) = true) (And.intro hb_3_0 (And.intro (spec_l1Add_s _ _ hr_3_35) (And.intro bod_153 (And.intro (Or.inl rfl : ([] : List Nat) = [] ∨ noSh (.int .i64 r_3_35) = true) (And.intro hb_3_0 (And.intro hb_3_0 trivial))))))))))))))))))))))))))))))))))))))))))))))))) (by kernel_rfl) (by kernel_rfl) ?_
          obtain rfl := Option.some.inj h
          exact Into.mk
      · clear hj_5
        refine seqQ_norm ?_
        rcases itesome h with ⟨hb_6, h⟩ | ⟨hb_6, h⟩
        · refine Wp.condT (b := v_4) (by kernel_rfl) (by kernel_rfl) hb_6 ?_
          refine Wp.seqN (by kernel_rfl) ?_
          refine Wp.reg tiok mix hc (by kernel_rfl) (ah := none) (rs := [some (.no)]) (kt := [8]) (ko := []) (T' := [(8, .bool false)]) (O' := []) (by kernel_rfl) trivial (by kernel_rfl) (by kernel_rfl) ?_
          refine seqQ_norm ?_
          refine Wp.retN (by kernel_rfl) ?_
          refine seqQ_ret ?_
          obtain rfl := Option.some.inj h
          exact RetQ.ret (fl := [true]) (by kernel_rfl)
        · refine Wp.condF (b := v_4) (by kernel_rfl) (by kernel_rfl) hb_6 ?_
          refine Wp.skipN (by kernel_rfl) ?_
          refine seqQ_norm ?_
          refine Wp.seqN (by kernel_rfl) ?_
          refine Wp.seqN (by kernel_rfl) ?_
          obtain ⟨r_5_3, hr_5_3, h⟩ := bsome h
          refine Wp.reg tiok mix hc (by kernel_rfl) (ah := none) (rs := [some (.no), some (.no), some (.no), some (.call (.bool r_5_3) [] 1), some (.no)]) (kt := [1, 2, 3, 4, 83]) (ko := [1]) (T' := [(1, .int .i64 a1), (2, .int .i64 b2), (3, .int .i64 c3), (4, .ra 1 0), (83, .bool (!r_5_3))]) (O' := [(1, .box [.int .i64 s0.fSize, .sl (List.map I s0.fPlus), .sl (List.map I s0.fTimes), .sl (List.map AV.bool s0.fBelow)])]) (by kernel_rfl) (And.intro (spec_l1Le_s _ _ hr_5_3) (And.intro bod_155 (And.intro (Or.inl rfl : ([] : List Nat) = [] ∨ noSh (.bool r_5_3) = true) trivial))) (by kernel_rfl) (by kernel_rfl) ?_
          refine seqQ_norm ?_
          rcases itesome h with ⟨hb_7, h⟩ | ⟨hb_7, h⟩
          · refine Wp.condF (b := (!r_5_3)) (by kernel_rfl) (by kernel_rfl) (nF hb_7) ?_
            refine Wp.skipN (by kernel_rfl) ?_
            refine seqQ_norm ?_
            refine Wp.seqN (by kernel_rfl) ?_
            refine Wp.seqN (by kernel_rfl) ?_
            obtain ⟨v_8, hj_9, h⟩ := bsome h
            refine Wp.into (x := .normal) (mkS [(1, .int .i64 a1), (2, .int .i64 b2), (3, .int .i64 c3), (4, .ra 1 0), (94, .bool v_8)] [(1, .box [.int .i64 s0.fSize, .sl (List.map I s0.fPlus), .sl (List.map I s0.fTimes), .sl (List.map AV.bool s0.fBelow)])]) ?_ ?_
            · replace h := hj_9
              obtain ⟨r_7_3, hr_7_3, h⟩ := bsome h
              rcases itesome h with ⟨hb_7_0, h⟩ | ⟨hb_7_0, h⟩
              · obtain ⟨r_7_8, hr_7_8, h⟩ := bsome h
                refine Wp.reg tiok mix hc (by kernel_rfl) (ah := none) (rs := [some (.no), some (.no), some (.no), some (.call (.bool r_7_3) [] 1), some (.no), some (.no), some (.no), some (.no), some (.call (.bool r_7_8) [] 1), some (.no), some (.cond true)]) (kt := [1, 2, 3, 4, 94]) (ko := [1]) (T' := [(1, .int .i64 a1), (2, .int .i64 b2), (3, .int .i64 c3), (4, .ra 1 0), (94, .bool (!r_7_8))]) (O' := [(1, .box [.int .i64 s0.fSize, .sl (List.map I s0.fPlus), .sl (List.map I s0.fTimes), .sl (List.map AV.bool s0.fBelow)])]) (by kernel_rfl) (And.intro (spec_l1Le_s _ _ hr_7_3) (And.intro bod_155 (And.intro (Or.inl rfl : ([] : List Nat) = [] ∨ noSh (.bool r_7_3) = true) (And.intro hb_7_0 (And.intro hb_7_0 (And.intro hb_7_0 (And.intro hb_7_0 (And.intro (spec_l1Le_s _ _ hr_7_8) (And.intro bod_155 (And.intro (Or.inl rfl : ([] : List Nat) = [] ∨ noSh (.bool r_7_8) = true) (And.intro hb_7_0 (And.intro hb_7_0 trivial)))))))))))) (by kernel_rfl) (by kernel_rfl) ?_
                obtain rfl := Option.some.inj h
                exact Into.mk
              · refine Wp.reg tiok mix hc (by kernel_rfl) (ah := none) (rs := [some (.no), some (.no), some (.no), some (.call (.bool r_7_3) [] 1), some (.no), none, none, none, none, none, some (.cond false)]) (kt := [1, 2, 3, 4, 94]) (ko := [1]) (T' := [(1, .int .i64 a1), (2, .int .i64 b2), (3, .int .i64 c3), (4, .ra 1 0), (94, .bool false)]) (O' := [(1, .box [.int .i64 s0.fSize, .sl (List.map I s0.fPlus), .sl (List.map I s0.fTimes), .sl (List.map AV.bool s0.fBelow)])]) (by kernel_rfl) (And.intro (spec_l1Le_s _ _ hr_7_3) (And.intro bod_155 (And.intro (Or.inl rfl : ([] : List Nat) = [] ∨ noSh (.bool r_7_3) = true) (And.intro (neT hb_7_0 : r_7_3 ≠ true) (And.intro (neT hb_7_0 : r_7_3 ≠ true) (And.intro (neT hb_7_0 : r_7_3 ≠ true) (And.intro (neT hb_7_0 : r_7_3 ≠ true) (And.intro (neT hb_7_0 : r_7_3 ≠ true) (And.intro hb_7_0 trivial))))))))) (by kernel_rfl) (by kernel_rfl) ?_
                obtain rfl := Option.some.inj h
                exact Into.mk
            · clear hj_9
              refine seqQ_norm ?_
              rcases itesome h with ⟨hb_10, h⟩ | ⟨hb_10, h⟩
              · refine Wp.condT (b := v_8) (by kernel_rfl) (by kernel_rfl) hb_10 ?_
                refine Wp.seqN (by kernel_rfl) ?_
                refine Wp.reg tiok mix hc (by kernel_rfl) (ah := none) (rs := [some (.no)]) (kt := [8]) (ko := []) (T' := [(8, .bool false)]) (O' := []) (by kernel_rfl) trivial (by kernel_rfl) (by kernel_rfl) ?_
                refine seqQ_norm ?_
                refine Wp.retN (by kernel_rfl) ?_
                refine seqQ_ret ?_
                obtain rfl := Option.some.inj h
                exact RetQ.ret (fl := [true]) (by kernel_rfl)
              · refine Wp.condF (b := v_8) (by kernel_rfl) (by kernel_rfl) hb_10 ?_
                refine Wp.skipN (by kernel_rfl) ?_
                refine seqQ_norm ?_
                refine Wp.seqN (by kernel_rfl) ?_
                obtain ⟨v_11, hj_12, h⟩ := bsome h
                refine Wp.into (x := .normal) (mkS [(8, .bool v_11)] []) ?_ ?_
                · replace h := hj_12
                  obtain ⟨r_9_4, hr_9_4, h⟩ := bsome h
                  obtain ⟨r_9_8, hr_9_8, h⟩ := bsome h
                  obtain ⟨r_9_9, hr_9_9, h⟩ := bsome h
                  rcases itesome h with ⟨hb_9_0, h⟩ | ⟨hb_9_0, h⟩
                  · obtain ⟨r_9_15, hr_9_15, h⟩ := bsome h
                    obtain ⟨r_9_19, hr_9_19, h⟩ := bsome h
                    obtain ⟨r_9_20, hr_9_20, h⟩ := bsome h
                    rcases itesome h with ⟨hb_9_1, h⟩ | ⟨hb_9_1, h⟩
                    · obtain ⟨r_9_27, hr_9_27, h⟩ := bsome h
                      obtain ⟨r_9_31, hr_9_31, h⟩ := bsome h
                      obtain ⟨r_9_32, hr_9_32, h⟩ := bsome h
                      refine Wp.reg tiok mix hc (by kernel_rfl) (ah := (some [[], [], [], [], [1, 2, 3], [], [], [], [1, 2, 3, 4, 5, 6, 7], [0, 1, 2, 3, 4, 5, 6, 7, 8], [0, 1, 2, 3, 4, 5, 6, 7, 8, 9], [0, 1, 2, 3, 4, 5, 6, 7, 8, 9, 10], [0, 1, 2, 3, 4, 5, 6, 7, 8, 9, 10], [0, 1, 2, 3, 4, 5, 6, 7, 8, 9, 10], [0, 1, 2, 3, 4, 5, 6, 7, 8, 9, 10], [0, 1, 2, 3, 4, 5, 6, 7, 8, 9, 10, 12, 13, 14], [0, 1, 2, 3, 4, 5, 6, 7, 8, 9, 10], [0, 1, 2, 3, 4, 5, 6, 7, 8, 9, 10], [0, 1, 2, 3, 4, 5, 6, 7, 8, 9, 10], [0, 1, 2, 3, 4, 5, 6, 7, 8, 9, 10, 12, 13, 14, 15, 16, 17, 18], [0, 1, 2, 3, 4, 5, 6, 7, 8, 9, 10, 11, 12, 13, 14, 15, 16, 17, 18, 19], [0, 1, 2, 3, 4, 5, 6, 7, 8, 9, 10, 11, 12, 13, 14, 15, 16, 17, 18, 19, 20], [0, 1, 2, 3, 4, 5, 6, 7, 8, 9, 10, 11, 12, 13, 14, 15, 16, 17, 18, 19, 20, 21], [0, 1, 2, 3, 4, 5, 6, 7, 8, 9, 10, 11, 12, 13, 14, 15, 16, 17, 18, 19, 20, 21, 22], [0, 1, 2, 3, 4, 5, 6, 7, 8, 9, 10, 11, 12, 13, 14, 15, 16, 17, 18, 19, 20, 21, 22], [0, 1, 2, 3, 4, 5, 6, 7, 8, 9, 10, 11, 12, 13, 14, 15, 16, 17, 18, 19, 20, 21, 22], [0, 1, 2, 3, 4, 5, 6, 7, 8, 9, 10, 11, 12, 13, 14, 15, 16, 17, 18, 19, 20, 21, 22], [0, 1, 2, 3, 4, 5, 6, 7, 8, 9, 10, 11, 12, 13, 14, 15, 16, 17, 18, 19, 20, 21, 22, 24, 25, 26], [0, 1, 2, 3, 4, 5, 6, 7, 8, 9, 10, 11, 12, 13, 14, 15, 16, 17, 18, 19, 20, 21, 22], [0, 1, 2, 3, 4, 5, 6, 7, 8, 9, 10, 11, 12, 13, 14, 15, 16, 17, 18, 19, 20, 21, 22], [0, 1, 2, 3, 4, 5, 6, 7, 8, 9, 10, 11, 12, 13, 14, 15, 16, 17, 18, 19, 20, 21, 22], [0, 1, 2, 3, 4, 5, 6, 7, 8, 9, 10, 11, 12, 13, 14, 15, 16, 17, 18, 19, 20, 21, 22, 24, 25, 26, 27, 28, 29, 30], [0, 1, 2, 3, 4, 5, 6, 7, 8, 9, 10, 11, 12, 13, 14, 15, 16, 17, 18, 19, 20, 21, 22, 23, 24, 25, 26, 27, 28, 29, 30, 31], [0, 1, 2, 3, 4, 5, 6, 7, 8, 9, 10, 11, 12, 13, 14, 15, 16, 17, 18, 19, 20, 21, 22, 23, 24, 25, 26, 27, 28, 29, 30, 31, 32], [0, 1, 2, 3, 4, 5, 6, 7, 8, 9, 10, 11, 12, 13, 14, 15, 16, 17, 18, 19, 20, 21, 22, 23, 24, 25, 26, 27, 28, 29, 30, 31, 32, 33]])) (rs := [some (.no), some (.no), some (.no), some (.no), some (.call (.int .i64 r_9_4) [] 1), some (.no), some (.no), some (.no), some (.call (.int .i64 r_9_8) [] 1), some (.call (.bool r_9_9) [] 1), some (.no), some (.no), some (.no), some (.no), some (.no), some (.call (.int .i64 r_9_15) [] 1), some (.no), some (.no), some (.no), some (.call (.int .i64 r_9_19) [] 1), some (.call (.bool r_9_20) [] 1), some (.cond true), some (.no), some (.no), some (.no), some (.no), some (.no), some (.call (.int .i64 r_9_27) [] 1), some (.no), some (.no), some (.no), some (.call (.int .i64 r_9_31) [] 1), some (.call (.bool r_9_32) [] 1), some (.cond true), some (.no)]) (kt := [8]) (ko := []) (T' := [(8, .bool r_9_32)]) (O' := []) (by kernel_rfl) (And.intro (spec_l1Add_s _ _ hr_9_4) (And.intro bod_153 (And.intro (Or.inl rfl : ([] : List Nat) = [] ∨ noSh (.int .i64 r_9_4) = true) (And.intro (spec_l1Add_s _ _ hr_9_8) (And.intro bod_153 (And.intro (Or.inl rfl : ([] : List Nat) = [] ∨ noSh (.int .i64 r_9_8) = true) (And.intro (spec_l1Le_s _ _ hr_9_9) (And.intro bod_155 (And.intro (Or.inl rfl : ([] : List Nat) = [] ∨ noSh (.bool r_9_9) = true) (And.intro hb_9_0 (And.intro hb_9_0 (And.intro hb_9_0 (And.intro hb_9_0 (And.intro hb_9_0 (And.intro (spec_l1Mul_s _ _ hr_9_15) (And.intro bod_154 (And.intro (Or.inl rfl : ([] : List Nat) = [] ∨ noSh (.int .i64 r_9_15) = true) (And.intro hb_9_0 (And.intro hb_9_0 (And.intro hb_9_0 (And.intro hb_9_0 (And.intro (spec_l1Mul_s _ _ hr_9_19) (And.intro bod_154 (And.intro (Or.inl rfl : ([] : List Nat) = [] ∨ noSh (.int .i64 r_9_19) = true) (And.intro hb_9_0 (And.intro (spec_l1Le_s _ _ hr_9_20) (And.intro bod_155 (And.intro (Or.inl rfl : ([] : List Nat) = [] ∨ noSh (.bool r_9_20) = true) (And.intro hb_9_0 (And.intro hb_9_1 (And.intro hb_9_1 (And.intro hb_9_1 (And.intro hb_9_1 (And.intro hb_9_1 (And.intro (spec_l1Mul_s _ _ hr_9_27) (And.intro bod_154 (And.intro (Or.inl rfl : ([] : List Nat) = [] ∨ noSh (.int .i64 r_9_27) = true) (And.intro hb_9_1 (And.intro hb_9_1 (And.intro hb_9_1 (And.intro hb_9_1 (And.intro (spec_l1Mul_s _ _ hr_9_31) (And.intro bod_154 (And.intro (Or.inl rfl : ([] : List Nat) = [] ∨ noSh (.int .i64 r_9_31) = true) (And.intro hb_9_1 (And.intro (spec_l1Le_s _ _ hr_9_32) (And.intro bod_155 (And.intro (Or.inl rfl : ([] : List Nat) = [] ∨ noSh (.bool r_9_32) = true) (And.intro hb_9_1 trivial))))))))))))))))))))))))))))))))))))))))))))))))) (by kernel_rfl) (by kernel_rfl) ?_
                      obtain rfl := Option.some.inj h
                      exact Into.mk
                    · refine Wp.reg tiok mix hc (by kernel_rfl) (ah := (some [[], [], [], [], [1, 2, 3], [], [], [], [1, 2, 3, 4, 5, 6, 7], [0, 1, 2, 3, 4, 5, 6, 7, 8], [0, 1, 2, 3, 4, 5, 6, 7, 8, 9], [0, 1, 2, 3, 4, 5, 6, 7, 8, 9, 10], [0, 1, 2, 3, 4, 5, 6, 7, 8, 9, 10], [0, 1, 2, 3, 4, 5, 6, 7, 8, 9, 10], [0, 1, 2, 3, 4, 5, 6, 7, 8, 9, 10], [0, 1, 2, 3, 4, 5, 6, 7, 8, 9, 10, 12, 13, 14], [0, 1, 2, 3, 4, 5, 6, 7, 8, 9, 10], [0, 1, 2, 3, 4, 5, 6, 7, 8, 9, 10], [0, 1, 2, 3, 4, 5, 6, 7, 8, 9, 10], [0, 1, 2, 3, 4, 5, 6, 7, 8, 9, 10, 12, 13, 14, 15, 16, 17, 18], [0, 1, 2, 3, 4, 5, 6, 7, 8, 9, 10, 11, 12, 13, 14, 15, 16, 17, 18, 19], [0, 1, 2, 3, 4, 5, 6, 7, 8, 9, 10, 11, 12, 13, 14, 15, 16, 17, 18, 19, 20], [0, 1, 2, 3, 4, 5, 6, 7, 8, 9, 10, 11, 12, 13, 14, 15, 16, 17, 18, 19, 20, 21], [0, 1, 2, 3, 4, 5, 6, 7, 8, 9, 10, 11, 12, 13, 14, 15, 16, 17, 18, 19, 20, 21, 22], [0, 1, 2, 3, 4, 5, 6, 7, 8, 9, 10, 11, 12, 13, 14, 15, 16, 17, 18, 19, 20, 21, 22], [0, 1, 2, 3, 4, 5, 6, 7, 8, 9, 10, 11, 12, 13, 14, 15, 16, 17, 18, 19, 20, 21, 22], [0, 1, 2, 3, 4, 5, 6, 7, 8, 9, 10, 11, 12, 13, 14, 15, 16, 17, 18, 19, 20, 21, 22], [0, 1, 2, 3, 4, 5, 6, 7, 8, 9, 10, 11, 12, 13, 14, 15, 16, 17, 18, 19, 20, 21, 22, 24, 25, 26], [0, 1, 2, 3, 4, 5, 6, 7, 8, 9, 10, 11, 12, 13, 14, 15, 16, 17, 18, 19, 20, 21, 22], [0, 1, 2, 3, 4, 5, 6, 7, 8, 9, 10, 11, 12, 13, 14, 15, 16, 17, 18, 19, 20, 21, 22], [0, 1, 2, 3, 4, 5, 6, 7, 8, 9, 10, 11, 12, 13, 14, 15, 16, 17, 18, 19, 20, 21, 22], [0, 1, 2, 3, 4, 5, 6, 7, 8, 9, 10, 11, 12, 13, 14, 15, 16, 17, 18, 19, 20, 21, 22, 24, 25, 26, 27, 28, 29, 30], [0, 1, 2, 3, 4, 5, 6, 7, 8, 9, 10, 11, 12, 13, 14, 15, 16, 17, 18, 19, 20, 21, 22, 23, 24, 25, 26, 27, 28, 29, 30, 31], [0, 1, 2, 3, 4, 5, 6, 7, 8, 9, 10, 11, 12, 13, 14, 15, 16, 17, 18, 19, 20, 21, 22, 23, 24, 25, 26, 27, 28, 29, 30, 31, 32], [0, 1, 2, 3, 4, 5, 6, 7, 8, 9, 10, 11, 12, 13, 14, 15, 16, 17, 18, 19, 20, 21, 22, 23, 24, 25, 26, 27, 28, 29, 30, 31, 32, 33]])) (rs := [some (.no), some (.no), some (.no), some (.no), some (.call (.int .i64 r_9_4) [] 1), some (.no), some (.no), some (.no), some (.call (.int .i64 r_9_8) [] 1), some (.call (.bool r_9_9) [] 1), some (.no), some (.no), some (.no), some (.no), some (.no), some (.call (.int .i64 r_9_15) [] 1), some (.no), some (.no), some (.no), some (.call (.int .i64 r_9_19) [] 1), some (.call (.bool r_9_20) [] 1), some (.cond true), some (.no), none, none, none, none, none, none, none, none, none, none, some (.cond false), some (.no)]) (kt := [8]) (ko := []) (T' := [(8, .bool false)]) (O' := []) (by kernel_rfl) (And.intro (spec_l1Add_s _ _ hr_9_4) (And.intro bod_153 (And.intro (Or.inl rfl : ([] : List Nat) = [] ∨ noSh (.int .i64 r_9_4) = true) (And.intro (spec_l1Add_s _ _ hr_9_8) (And.intro bod_153 (And.intro (Or.inl rfl : ([] : List Nat) = [] ∨ noSh (.int .i64 r_9_8) = true) (And.intro (spec_l1Le_s _ _ hr_9_9) (And.intro bod_155 (And.intro (Or.inl rfl : ([] : List Nat) = [] ∨ noSh (.bool r_9_9) = true) (And.intro hb_9_0 (And.intro hb_9_0 (And.intro hb_9_0 (And.intro hb_9_0 (And.intro hb_9_0 (And.intro (spec_l1Mul_s _ _ hr_9_15) (And.intro bod_154 (And.intro (Or.inl rfl : ([] : List Nat) = [] ∨ noSh (.int .i64 r_9_15) = true) (And.intro hb_9_0 (And.intro hb_9_0 (And.intro hb_9_0 (And.intro hb_9_0 (And.intro (spec_l1Mul_s _ _ hr_9_19) (And.intro bod_154 (And.intro (Or.inl rfl : ([] : List Nat) = [] ∨ noSh (.int .i64 r_9_19) = true) (And.intro hb_9_0 (And.intro (spec_l1Le_s _ _ hr_9_20) (And.intro bod_155 (And.intro (Or.inl rfl : ([] : List Nat) = [] ∨ noSh (.bool r_9_20) = true) (And.intro hb_9_0 (And.intro (neT hb_9_1 : r_9_20 ≠ true) (And.intro (neT hb_9_1 : r_9_20 ≠ true) (And.intro (neT hb_9_1 : r_9_20 ≠ true) (And.intro (neT hb_9_1 : r_9_20 ≠ true) (And.intro (neT hb_9_1 : r_9_20 ≠ true) (And.intro (neT hb_9_1 : r_9_20 ≠ true) (And.intro (neT hb_9_1 : r_9_20 ≠ true) (And.intro (neT hb_9_1 : r_9_20 ≠ true) (And.intro (neT hb_9_1 : r_9_20 ≠ true) (And.intro (neT hb_9_1 : r_9_20 ≠ true) (And.intro hb_9_1 trivial)))))))))))))))))))))))))))))))))))))))) (by kernel_rfl) (by kernel_rfl) ?_
                      obtain rfl := Option.some.inj h
                      exact Into.mk
                  · refine Wp.reg tiok mix hc (by kernel_rfl) (ah := (some [[], [], [], [], [1, 2, 3], [], [], [], [1, 2, 3, 4, 5, 6, 7], [0, 1, 2, 3, 4, 5, 6, 7, 8], [0, 1, 2, 3, 4, 5, 6, 7, 8, 9], [0, 1, 2, 3, 4, 5, 6, 7, 8, 9, 10], [0, 1, 2, 3, 4, 5, 6, 7, 8, 9, 10], [0, 1, 2, 3, 4, 5, 6, 7, 8, 9, 10], [0, 1, 2, 3, 4, 5, 6, 7, 8, 9, 10], [0, 1, 2, 3, 4, 5, 6, 7, 8, 9, 10, 12, 13, 14], [0, 1, 2, 3, 4, 5, 6, 7, 8, 9, 10], [0, 1, 2, 3, 4, 5, 6, 7, 8, 9, 10], [0, 1, 2, 3, 4, 5, 6, 7, 8, 9, 10], [0, 1, 2, 3, 4, 5, 6, 7, 8, 9, 10, 12, 13, 14, 15, 16, 17, 18], [0, 1, 2, 3, 4, 5, 6, 7, 8, 9, 10, 11, 12, 13, 14, 15, 16, 17, 18, 19], [0, 1, 2, 3, 4, 5, 6, 7, 8, 9, 10, 11, 12, 13, 14, 15, 16, 17, 18, 19, 20], [0, 1, 2, 3, 4, 5, 6, 7, 8, 9, 10, 11, 12, 13, 14, 15, 16, 17, 18, 19, 20, 21], [0, 1, 2, 3, 4, 5, 6, 7, 8, 9, 10, 11, 12, 13, 14, 15, 16, 17, 18, 19, 20, 21, 22], [0, 1, 2, 3, 4, 5, 6, 7, 8, 9, 10, 11, 12, 13, 14, 15, 16, 17, 18, 19, 20, 21, 22], [0, 1, 2, 3, 4, 5, 6, 7, 8, 9, 10, 11, 12, 13, 14, 15, 16, 17, 18, 19, 20, 21, 22], [0, 1, 2, 3, 4, 5, 6, 7, 8, 9, 10, 11, 12, 13, 14, 15, 16, 17, 18, 19, 20, 21, 22], [0, 1, 2, 3, 4, 5, 6, 7, 8, 9, 10, 11, 12, 13, 14, 15, 16, 17, 18, 19, 20, 21, 22, 24, 25, 26], [0, 1, 2, 3, 4, 5, 6, 7, 8, 9, 10, 11, 12, 13, 14, 15, 16, 17, 18, 19, 20, 21, 22], [0, 1, 2, 3, 4, 5, 6, 7, 8, 9, 10, 11, 12, 13, 14, 15, 16, 17, 18, 19, 20, 21, 22], [0, 1, 2, 3, 4, 5, 6, 7, 8, 9, 10, 11, 12, 13, 14, 15, 16, 17, 18, 19, 20, 21, 22], [0, 1, 2, 3, 4, 5, 6, 7, 8, 9, 10, 11, 12, 13, 14, 15, 16, 17, 18, 19, 20, 21, 22, 24, 25, 26, 27, 28, 29, 30], [0, 1, 2, 3, 4, 5, 6, 7, 8, 9, 10, 11, 12, 13, 14, 15, 16, 17, 18, 19, 20, 21, 22, 23, 24, 25, 26, 27, 28, 29, 30, 31], [0, 1, 2, 3, 4, 5, 6, 7, 8, 9, 10, 11, 12, 13, 14, 15, 16, 17, 18, 19, 20, 21, 22, 23, 24, 25, 26, 27, 28, 29, 30, 31, 32], [0, 1, 2, 3, 4, 5, 6, 7, 8, 9, 10, 11, 12, 13, 14, 15, 16, 17, 18, 19, 20, 21, 22, 23, 24, 25, 26, 27, 28, 29, 30, 31, 32, 33]])) (rs := [some (.no), some (.no), some (.no), some (.no), some (.call (.int .i64 r_9_4) [] 1), some (.no), some (.no), some (.no), some (.call (.int .i64 r_9_8) [] 1), some (.call (.bool r_9_9) [] 1), some (.no), none, none, none, none, none, none, none, none, none, none, some (.cond false), some (.no), none, none, none, none, none, none, none, none, none, none, some (.cond false), some (.no)]) (kt := [8]) (ko := []) (T' := [(8, .bool false)]) (O' := []) (by kernel_rfl) (And.intro (spec_l1Add_s _ _ hr_9_4) (And.intro bod_153 (And.intro (Or.inl rfl : ([] : List Nat) = [] ∨ noSh (.int .i64 r_9_4) = true) (And.intro (spec_l1Add_s _ _ hr_9_8) (And.intro bod_153 (And.intro (Or.inl rfl : ([] : List Nat) = [] ∨ noSh (.int .i64 r_9_8) = true) (And.intro (spec_l1Le_s _ _ hr_9_9) (And.intro bod_155 (And.intro (Or.inl rfl : ([] : List Nat) = [] ∨ noSh (.bool r_9_9) = true) (And.intro (neT hb_9_0 : r_9_9 ≠ true) (And.intro (neT hb_9_0 : r_9_9 ≠ true) (And.intro (neT hb_9_0 : r_9_9 ≠ true) (And.intro (neT hb_9_0 : r_9_9 ≠ true) (And.intro (neT hb_9_0 : r_9_9 ≠ true) (And.intro (neT hb_9_0 : r_9_9 ≠ true) (And.intro (neT hb_9_0 : r_9_9 ≠ true) (And.intro (neT hb_9_0 : r_9_9 ≠ true) (And.intro (neT hb_9_0 : r_9_9 ≠ true) (And.intro (neT hb_9_0 : r_9_9 ≠ true) (And.intro hb_9_0 (And.intro (neT (rfl : false = false) : false ≠ true) (And.intro (neT (rfl : false = false) : false ≠ true) (And.intro (neT (rfl : false = false) : false ≠ true) (And.intro (neT (rfl : false = false) : false ≠ true) (And.intro (neT (rfl : false = false) : false ≠ true) (And.intro (neT (rfl : false = false) : false ≠ true) (And.intro (neT (rfl : false = false) : false ≠ true) (And.intro (neT (rfl : false = false) : false ≠ true) (And.intro (neT (rfl : false = false) : false ≠ true) (And.intro (neT (rfl : false = false) : false ≠ true) (And.intro (rfl : false = false) trivial))))))))))))))))))))))))))))))) (by kernel_rfl) (by kernel_rfl) ?_
                    obtain rfl := Option.some.inj h
                    exact Into.mk
                · clear hj_12
                  refine seqQ_norm ?_
                  refine Wp.retN (by kernel_rfl) ?_
                  obtain rfl := Option.some.inj h
                  exact RetQ.ret (fl := [true]) (by kernel_rfl)
          · refine Wp.condT (b := (!r_5_3)) (by kernel_rfl) (by kernel_rfl) (nT hb_7) ?_
            refine Wp.seqN (by kernel_rfl) ?_
            refine Wp.reg tiok mix hc (by kernel_rfl) (ah := none) (rs := [some (.no)]) (kt := [8]) (ko := []) (T' := [(8, .bool true)]) (O' := []) (by kernel_rfl) trivial (by kernel_rfl) (by kernel_rfl) ?_
            refine seqQ_norm ?_
            refine Wp.retN (by kernel_rfl) ?_
            refine seqQ_ret ?_
            obtain rfl := Option.some.inj h
            exact RetQ.ret (fl := [true]) (by kernel_rfl)
def spec_IsSystem_F1 (c : Ctx) (s0 : GSystem) (a_22 : Int) (b_33 : Int) : (Unit) ⊕ (Bool) → Exit → AState → Prop
  | .inl _ => Into c (.exit 4) (mkS [(1, .ra 1 0), (3, .int .i64 a_22), (4, .int .i64 b_33)] [(1, .box [.int .i64 s0.fSize, .sl (List.map I s0.fPlus), .sl (List.map I s0.fTimes), .sl (List.map AV.bool s0.fBelow)])])
  | .inr r => RetE TIx Try.f98 [] (.bool r)
def spec_IsSystem_l0 (p : GSystem × Int × Int × Int) : Option ((Unit) ⊕ (Bool)) :=
  match p with
  | (s0, a_22, b_33, c_38) =>
    if (decide (c_38 < s0.fSize)) = true then
      (spec_l1Three (s0, a_22, b_33, c_38)) >>= fun r_16_4 =>
      if r_16_4 = true then
        spec_IsSystem_l0 (s0, a_22, b_33, (wr (c_38 + 1)))
      else
        some (.inr false)
    else
      some (.inl ())
  partial_fixpoint
def M_spec_IsSystem_l0 (p : GSystem × Int × Int × Int) (fl : (Unit) ⊕ (Bool)) : Prop :=
  match p with
  | (s0, a_22, b_33, c_38) => ∀ c : Ctx, c.nt = 42 → WpL Try.prog c (cl (cl (cr (cr (cl (cl (cr (cl (cl (cr (cr (cl (cl (cr (cl (cl (cr (cl (cr (cr B98)))))))))))))))))))) (spec_IsSystem_F1 c s0 a_22 b_33 fl) (mkS [(1, .ra 1 0), (3, .int .i64 a_22), (4, .int .i64 b_33), (5, .int .i64 c_38)] [(1, .box [.int .i64 s0.fSize, .sl (List.map I s0.fPlus), .sl (List.map I s0.fTimes), .sl (List.map AV.bool s0.fBelow)])])
theorem spec_IsSystem_l0_s : ∀ p r, spec_IsSystem_l0 p = some r → M_spec_IsSystem_l0 p r := by
  refine spec_IsSystem_l0.partial_correctness M_spec_IsSystem_l0 ?_
  rintro spec_IsSystem_l0_f spec_IsSystem_l0_ih ⟨s0, a_22, b_33, c_38⟩ r h
  intro c hc
  show WpL Try.prog c (cl (cl (cr (cr (cl (cl (cr (cl (cl (cr (cr (cl (cl (cr (cl (cl (cr (cl (cr (cr B98)))))))))))))))))))) (spec_IsSystem_F1 c s0 a_22 b_33 r) (mkS [(1, .ra 1 0), (3, .int .i64 a_22), (4, .int .i64 b_33), (5, .int .i64 c_38)] [(1, .box [.int .i64 s0.fSize, .sl (List.map I s0.fPlus), .sl (List.map I s0.fTimes), .sl (List.map AV.bool s0.fBelow)])])
  refine WpL.step ?_
  refine Wp.seqN (by kernel_rfl) ?_
  refine Wp.seqN (by kernel_rfl) ?_
  refine Wp.reg tiok mix hc (by kernel_rfl) (ah := none) (rs := [some (.no), some (.no), some (.no), some (.no)]) (kt := [1, 3, 4, 5, 33]) (ko := [1]) (T' := [(1, .ra 1 0), (3, .int .i64 a_22), (4, .int .i64 b_33), (5, .int .i64 c_38), (33, .bool (decide (c_38 < s0.fSize)))]) (O' := [(1, .box [.int .i64 s0.fSize, .sl (List.map I s0.fPlus), .sl (List.map I s0.fTimes), .sl (List.map AV.bool s0.fBelow)])]) (by kernel_rfl) trivial (by kernel_rfl) (by kernel_rfl) ?_
  refine seqQ_norm ?_
  rcases itesome h with ⟨hb_39, h⟩ | ⟨hb_39, h⟩
  · refine Wp.condT (b := (decide (c_38 < s0.fSize))) (by kernel_rfl) (by kernel_rfl) hb_39 ?_
    refine Wp.skipN (by kernel_rfl) ?_
    refine seqQ_norm ?_
    refine Wp.seqN (by kernel_rfl) ?_
    refine Wp.blockN (i := 5) (by kernel_rfl) ?_
    refine Wp.seqN (by kernel_rfl) ?_
    obtain ⟨r_16_4, hr_16_4, h⟩ := bsome h
    refine Wp.reg tiok mix hc (by kernel_rfl) (ah := none) (rs := [some (.no), some (.no), some (.no), some (.no), some (.call (.bool r_16_4) [] 1), some (.no)]) (kt := [1, 3, 4, 5, 41]) (ko := [1]) (T' := [(1, .ra 1 0), (3, .int .i64 a_22), (4, .int .i64 b_33), (5, .int .i64 c_38), (41, .bool (!r_16_4))]) (O' := [(1, .box [.int .i64 s0.fSize, .sl (List.map I s0.fPlus), .sl (List.map I s0.fTimes), .sl (List.map AV.bool s0.fBelow)])]) (by kernel_rfl) (And.intro (spec_l1Three_s _ _ hr_16_4) (And.intro bod_148 (And.intro (Or.inl rfl : ([] : List Nat) = [] ∨ noSh (.bool r_16_4) = true) trivial))) (by kernel_rfl) (by kernel_rfl) ?_
    refine seqQ_norm ?_
    rcases itesome h with ⟨hb_40, h⟩ | ⟨hb_40, h⟩
    · refine Wp.condF (b := (!r_16_4)) (by kernel_rfl) (by kernel_rfl) (nF hb_40) ?_
      refine Wp.skipN (by kernel_rfl) ?_
      refine blockQ_norm ?_
      refine seqQ_norm ?_
      refine Wp.reg tiok mix hc (by kernel_rfl) (ah := none) (rs := [some (.no), some (.no), some (.no)]) (kt := [1, 3, 4, 5]) (ko := [1]) (T' := [(1, .ra 1 0), (3, .int .i64 a_22), (4, .int .i64 b_33), (5, .int .i64 (wr (c_38 + 1)))]) (O' := [(1, .box [.int .i64 s0.fSize, .sl (List.map I s0.fPlus), .sl (List.map I s0.fTimes), .sl (List.map AV.bool s0.fBelow)])]) (by kernel_rfl) trivial (by kernel_rfl) (by kernel_rfl) ?_
      refine loopQ_norm ?_
      exact (spec_IsSystem_l0_ih _ _ h c hc)
    · refine Wp.condT (b := (!r_16_4)) (by kernel_rfl) (by kernel_rfl) (nT hb_40) ?_
      refine Wp.seqN (by kernel_rfl) ?_
      refine Wp.reg tiok mix hc (by kernel_rfl) (ah := none) (rs := [some (.no)]) (kt := [2]) (ko := []) (T' := [(2, .bool false)]) (O' := []) (by kernel_rfl) trivial (by kernel_rfl) (by kernel_rfl) ?_
      refine seqQ_norm ?_
      refine Wp.retN (by kernel_rfl) ?_
      refine blockQ_ret ?_
      refine seqQ_ret ?_
      refine loopQ_ret ?_
      obtain rfl := Option.some.inj h
      exact RetE.ret (fl := [true]) (by kernel_rfl)
  · refine Wp.condF (b := (decide (c_38 < s0.fSize))) (by kernel_rfl) (by kernel_rfl) hb_39 ?_
    refine Wp.exitN (i := 4) (by kernel_rfl) ?_
    refine seqQ_exit ?_
    refine loopQ_exit ?_
    obtain rfl := Option.some.inj h
    exact Into.view (fun a w hv => SRx.renL [] hv (by kernel_rfl) (by kernel_rfl) (by kernel_rfl))
def spec_IsSystem_F2 (c : Ctx) (s0 : GSystem) (a_22 : Int) : (Unit) ⊕ (Bool) → Exit → AState → Prop
  | .inl _ => Into c (.exit 2) (mkS [(1, .ra 1 0), (3, .int .i64 a_22)] [(1, .box [.int .i64 s0.fSize, .sl (List.map I s0.fPlus), .sl (List.map I s0.fTimes), .sl (List.map AV.bool s0.fBelow)])])
  | .inr r => RetE TIx Try.f98 [] (.bool r)
def spec_IsSystem_l1 (p : GSystem × Int × Int) : Option ((Unit) ⊕ (Bool)) :=
  match p with
  | (s0, a_22, b_33) =>
    if (decide (b_33 < s0.fSize)) = true then
      (spec_l1Two (s0, a_22, b_33)) >>= fun r_11_3 =>
      if r_11_3 = true then
        (spec_IsSystem_l0 (s0, a_22, b_33, 0)) >>= fun fl => match fl with
        | .inl () =>
          spec_IsSystem_l1 (s0, a_22, (wr (b_33 + 1)))
        | .inr r =>
          some (.inr r)
      else
        some (.inr false)
    else
      some (.inl ())
  partial_fixpoint
def M_spec_IsSystem_l1 (p : GSystem × Int × Int) (fl : (Unit) ⊕ (Bool)) : Prop :=
  match p with
  | (s0, a_22, b_33) => ∀ c : Ctx, c.nt = 42 → WpL Try.prog c (cl (cl (cr (cr (cl (cl (cr (cl (cl (cr (cl (cr (cr B98))))))))))))) (spec_IsSystem_F2 c s0 a_22 fl) (mkS [(1, .ra 1 0), (3, .int .i64 a_22), (4, .int .i64 b_33)] [(1, .box [.int .i64 s0.fSize, .sl (List.map I s0.fPlus), .sl (List.map I s0.fTimes), .sl (List.map AV.bool s0.fBelow)])])
theorem spec_IsSystem_l1_s : ∀ p r, spec_IsSystem_l1 p = some r → M_spec_IsSystem_l1 p r := by
  refine spec_IsSystem_l1.partial_correctness M_spec_IsSystem_l1 ?_
  rintro spec_IsSystem_l1_f spec_IsSystem_l1_ih ⟨s0, a_22, b_33⟩ r h
  intro c hc
  show WpL Try.prog c (cl (cl (cr (cr (cl (cl (cr (cl (cl (cr (cl (cr (cr B98))))))))))))) (spec_IsSystem_F2 c s0 a_22 r) (mkS [(1, .ra 1 0), (3, .int .i64 a_22), (4, .int .i64 b_33)] [(1, .box [.int .i64 s0.fSize, .sl (List.map I s0.fPlus), .sl (List.map I s0.fTimes), .sl (List.map AV.bool s0.fBelow)])])
  refine WpL.step ?_
  refine Wp.seqN (by kernel_rfl) ?_
  refine Wp.seqN (by kernel_rfl) ?_
  refine Wp.reg tiok mix hc (by kernel_rfl) (ah := none) (rs := [some (.no), some (.no), some (.no), some (.no)]) (kt := [1, 3, 4, 22]) (ko := [1]) (T' := [(1, .ra 1 0), (3, .int .i64 a_22), (4, .int .i64 b_33), (22, .bool (decide (b_33 < s0.fSize)))]) (O' := [(1, .box [.int .i64 s0.fSize, .sl (List.map I s0.fPlus), .sl (List.map I s0.fTimes), .sl (List.map AV.bool s0.fBelow)])]) (by kernel_rfl) trivial (by kernel_rfl) (by kernel_rfl) ?_
  refine seqQ_norm ?_
  rcases itesome h with ⟨hb_34, h⟩ | ⟨hb_34, h⟩
  · refine Wp.condT (b := (decide (b_33 < s0.fSize))) (by kernel_rfl) (by kernel_rfl) hb_34 ?_
    refine Wp.skipN (by kernel_rfl) ?_
    refine seqQ_norm ?_
    refine Wp.seqN (by kernel_rfl) ?_
    refine Wp.blockN (i := 3) (by kernel_rfl) ?_
    refine Wp.seqN (by kernel_rfl) ?_
    refine Wp.seqN (by kernel_rfl) ?_
    obtain ⟨r_11_3, hr_11_3, h⟩ := bsome h
    refine Wp.reg tiok mix hc (by kernel_rfl) (ah := none) (rs := [some (.no), some (.no), some (.no), some (.call (.bool r_11_3) [] 1), some (.no)]) (kt := [1, 3, 4, 29]) (ko := [1]) (T' := [(1, .ra 1 0), (3, .int .i64 a_22), (4, .int .i64 b_33), (29, .bool (!r_11_3))]) (O' := [(1, .box [.int .i64 s0.fSize, .sl (List.map I s0.fPlus), .sl (List.map I s0.fTimes), .sl (List.map AV.bool s0.fBelow)])]) (by kernel_rfl) (And.intro (spec_l1Two_s _ _ hr_11_3) (And.intro bod_147 (And.intro (Or.inl rfl : ([] : List Nat) = [] ∨ noSh (.bool r_11_3) = true) trivial))) (by kernel_rfl) (by kernel_rfl) ?_
    refine seqQ_norm ?_
    rcases itesome h with ⟨hb_35, h⟩ | ⟨hb_35, h⟩
    · refine Wp.condF (b := (!r_11_3)) (by kernel_rfl) (by kernel_rfl) (nF hb_35) ?_
      refine Wp.skipN (by kernel_rfl) ?_
      refine seqQ_norm ?_
      refine Wp.seqN (by kernel_rfl) ?_
      refine Wp.reg tiok mix hc (by kernel_rfl) (ah := none) (rs := [some (.no)]) (kt := [1, 3, 4, 5]) (ko := [1]) (T' := [(1, .ra 1 0), (3, .int .i64 a_22), (4, .int .i64 b_33), (5, .int .i64 0)]) (O' := [(1, .box [.int .i64 s0.fSize, .sl (List.map I s0.fPlus), .sl (List.map I s0.fTimes), .sl (List.map AV.bool s0.fBelow)])]) (by kernel_rfl) trivial (by kernel_rfl) (by kernel_rfl) ?_
      refine seqQ_norm ?_
      refine Wp.blockN (i := 4) (by kernel_rfl) ?_
      obtain ⟨fl, hl_41, h⟩ := bsome h
      have hL := spec_IsSystem_l0_s _ _ hl_41 c hc
      refine Wp.loopN (by kernel_rfl) ?_
      rcases fl with ⟨⟩ | r
      · refine WpL.into (e := (.exit 4)) (mkS [(1, .ra 1 0), (3, .int .i64 a_22), (4, .int .i64 b_33)] [(1, .box [.int .i64 s0.fSize, .sl (List.map I s0.fPlus), .sl (List.map I s0.fTimes), .sl (List.map AV.bool s0.fBelow)])]) hL ?_
        refine blockQ_hit ?_
        refine blockQ_norm ?_
        refine seqQ_norm ?_
        refine Wp.reg tiok mix hc (by kernel_rfl) (ah := none) (rs := [some (.no), some (.no), some (.no)]) (kt := [1, 3, 4]) (ko := [1]) (T' := [(1, .ra 1 0), (3, .int .i64 a_22), (4, .int .i64 (wr (b_33 + 1)))]) (O' := [(1, .box [.int .i64 s0.fSize, .sl (List.map I s0.fPlus), .sl (List.map I s0.fTimes), .sl (List.map AV.bool s0.fBelow)])]) (by kernel_rfl) trivial (by kernel_rfl) (by kernel_rfl) ?_
        refine loopQ_norm ?_
        exact (spec_IsSystem_l1_ih _ _ h c hc)
      · refine WpL.mono hL ?_
        rintro _ _ ⟨rfl, hfin⟩
        refine blockQ_ret ?_
        refine blockQ_ret ?_
        refine seqQ_ret ?_
        refine loopQ_ret ?_
        obtain rfl := Option.some.inj h
        exact ⟨rfl, hfin⟩
    · refine Wp.condT (b := (!r_11_3)) (by kernel_rfl) (by kernel_rfl) (nT hb_35) ?_
      refine Wp.seqN (by kernel_rfl) ?_
      refine Wp.reg tiok mix hc (by kernel_rfl) (ah := none) (rs := [some (.no)]) (kt := [2]) (ko := []) (T' := [(2, .bool false)]) (O' := []) (by kernel_rfl) trivial (by kernel_rfl) (by kernel_rfl) ?_
      refine seqQ_norm ?_
      refine Wp.retN (by kernel_rfl) ?_
      refine seqQ_ret ?_
      refine blockQ_ret ?_
      refine seqQ_ret ?_
      refine loopQ_ret ?_
      obtain rfl := Option.some.inj h
      exact RetE.ret (fl := [true]) (by kernel_rfl)
  · refine Wp.condF (b := (decide (b_33 < s0.fSize))) (by kernel_rfl) (by kernel_rfl) hb_34 ?_
    refine Wp.exitN (i := 2) (by kernel_rfl) ?_
    refine seqQ_exit ?_
    refine loopQ_exit ?_
    obtain rfl := Option.some.inj h
    exact Into.view (fun a w hv => SRx.renL [] hv (by kernel_rfl) (by kernel_rfl) (by kernel_rfl))
def spec_IsSystem_F3 (c : Ctx) : (Unit) ⊕ (Bool) → Exit → AState → Prop
  | .inl _ => Into c (.exit 0) (mkS [] [])
  | .inr r => RetE TIx Try.f98 [] (.bool r)
def spec_IsSystem_l2 (p : GSystem × Int) : Option ((Unit) ⊕ (Bool)) :=
  match p with
  | (s0, a_22) =>
    if (decide (a_22 < s0.fSize)) = true then
      (spec_l1One (s0, a_22)) >>= fun r_6_2 =>
      if r_6_2 = true then
        (spec_IsSystem_l1 (s0, a_22, 0)) >>= fun fl => match fl with
        | .inl () =>
          spec_IsSystem_l2 (s0, (wr (a_22 + 1)))
        | .inr r =>
          some (.inr r)
      else
        some (.inr false)
    else
      some (.inl ())
  partial_fixpoint
def M_spec_IsSystem_l2 (p : GSystem × Int) (fl : (Unit) ⊕ (Bool)) : Prop :=
  match p with
  | (s0, a_22) => ∀ c : Ctx, c.nt = 42 → WpL Try.prog c (cl (cl (cr (cl (cr (cr B98)))))) (spec_IsSystem_F3 c fl) (mkS [(1, .ra 1 0), (3, .int .i64 a_22)] [(1, .box [.int .i64 s0.fSize, .sl (List.map I s0.fPlus), .sl (List.map I s0.fTimes), .sl (List.map AV.bool s0.fBelow)])])
theorem spec_IsSystem_l2_s : ∀ p r, spec_IsSystem_l2 p = some r → M_spec_IsSystem_l2 p r := by
  refine spec_IsSystem_l2.partial_correctness M_spec_IsSystem_l2 ?_
  rintro spec_IsSystem_l2_f spec_IsSystem_l2_ih ⟨s0, a_22⟩ r h
  intro c hc
  show WpL Try.prog c (cl (cl (cr (cl (cr (cr B98)))))) (spec_IsSystem_F3 c r) (mkS [(1, .ra 1 0), (3, .int .i64 a_22)] [(1, .box [.int .i64 s0.fSize, .sl (List.map I s0.fPlus), .sl (List.map I s0.fTimes), .sl (List.map AV.bool s0.fBelow)])])
  refine WpL.step ?_
  refine Wp.seqN (by kernel_rfl) ?_
  refine Wp.seqN (by kernel_rfl) ?_
  refine Wp.reg tiok mix hc (by kernel_rfl) (ah := none) (rs := [some (.no), some (.no), some (.no), some (.no)]) (kt := [1, 3, 12]) (ko := [1]) (T' := [(1, .ra 1 0), (3, .int .i64 a_22), (12, .bool (decide (a_22 < s0.fSize)))]) (O' := [(1, .box [.int .i64 s0.fSize, .sl (List.map I s0.fPlus), .sl (List.map I s0.fTimes), .sl (List.map AV.bool s0.fBelow)])]) (by kernel_rfl) trivial (by kernel_rfl) (by kernel_rfl) ?_
  refine seqQ_norm ?_
  rcases itesome h with ⟨hb_23, h⟩ | ⟨hb_23, h⟩
  · refine Wp.condT (b := (decide (a_22 < s0.fSize))) (by kernel_rfl) (by kernel_rfl) hb_23 ?_
    refine Wp.skipN (by kernel_rfl) ?_
    refine seqQ_norm ?_
    refine Wp.seqN (by kernel_rfl) ?_
    refine Wp.blockN (i := 1) (by kernel_rfl) ?_
    refine Wp.seqN (by kernel_rfl) ?_
    refine Wp.seqN (by kernel_rfl) ?_
    obtain ⟨r_6_2, hr_6_2, h⟩ := bsome h
    refine Wp.reg tiok mix hc (by kernel_rfl) (ah := none) (rs := [some (.no), some (.no), some (.call (.bool r_6_2) [] 1), some (.no)]) (kt := [1, 3, 18]) (ko := [1]) (T' := [(1, .ra 1 0), (3, .int .i64 a_22), (18, .bool (!r_6_2))]) (O' := [(1, .box [.int .i64 s0.fSize, .sl (List.map I s0.fPlus), .sl (List.map I s0.fTimes), .sl (List.map AV.bool s0.fBelow)])]) (by kernel_rfl) (And.intro (spec_l1One_s _ _ hr_6_2) (And.intro bod_146 (And.intro (Or.inl rfl : ([] : List Nat) = [] ∨ noSh (.bool r_6_2) = true) trivial))) (by kernel_rfl) (by kernel_rfl) ?_
    refine seqQ_norm ?_
    rcases itesome h with ⟨hb_24, h⟩ | ⟨hb_24, h⟩
    · refine Wp.condF (b := (!r_6_2)) (by kernel_rfl) (by kernel_rfl) (nF hb_24) ?_
      refine Wp.skipN (by kernel_rfl) ?_
      refine seqQ_norm ?_
      refine Wp.seqN (by kernel_rfl) ?_
      refine Wp.reg tiok mix hc (by kernel_rfl) (ah := none) (rs := [some (.no)]) (kt := [1, 3, 4]) (ko := [1]) (T' := [(1, .ra 1 0), (3, .int .i64 a_22), (4, .int .i64 0)]) (O' := [(1, .box [.int .i64 s0.fSize, .sl (List.map I s0.fPlus), .sl (List.map I s0.fTimes), .sl (List.map AV.bool s0.fBelow)])]) (by kernel_rfl) trivial (by kernel_rfl) (by kernel_rfl) ?_
      refine seqQ_norm ?_
      refine Wp.blockN (i := 2) (by kernel_rfl) ?_
      obtain ⟨fl, hl_42, h⟩ := bsome h
      have hL := spec_IsSystem_l1_s _ _ hl_42 c hc
      refine Wp.loopN (by kernel_rfl) ?_
      rcases fl with ⟨⟩ | r
      · refine WpL.into (e := (.exit 2)) (mkS [(1, .ra 1 0), (3, .int .i64 a_22)] [(1, .box [.int .i64 s0.fSize, .sl (List.map I s0.fPlus), .sl (List.map I s0.fTimes), .sl (List.map AV.bool s0.fBelow)])]) hL ?_
        refine blockQ_hit ?_
        refine blockQ_norm ?_
        refine seqQ_norm ?_
        refine Wp.reg tiok mix hc (by kernel_rfl) (ah := none) (rs := [some (.no), some (.no), some (.no)]) (kt := [1, 3]) (ko := [1]) (T' := [(1, .ra 1 0), (3, .int .i64 (wr (a_22 + 1)))]) (O' := [(1, .box [.int .i64 s0.fSize, .sl (List.map I s0.fPlus), .sl (List.map I s0.fTimes), .sl (List.map AV.bool s0.fBelow)])]) (by kernel_rfl) trivial (by kernel_rfl) (by kernel_rfl) ?_
        refine loopQ_norm ?_
        exact (spec_IsSystem_l2_ih _ _ h c hc)
      · refine WpL.mono hL ?_
        rintro _ _ ⟨rfl, hfin⟩
        refine blockQ_ret ?_
        refine blockQ_ret ?_
        refine seqQ_ret ?_
        refine loopQ_ret ?_
        obtain rfl := Option.some.inj h
        exact ⟨rfl, hfin⟩
    · refine Wp.condT (b := (!r_6_2)) (by kernel_rfl) (by kernel_rfl) (nT hb_24) ?_
      refine Wp.seqN (by kernel_rfl) ?_
      refine Wp.reg tiok mix hc (by kernel_rfl) (ah := none) (rs := [some (.no)]) (kt := [2]) (ko := []) (T' := [(2, .bool false)]) (O' := []) (by kernel_rfl) trivial (by kernel_rfl) (by kernel_rfl) ?_
      refine seqQ_norm ?_
      refine Wp.retN (by kernel_rfl) ?_
      refine seqQ_ret ?_
      refine blockQ_ret ?_
      refine seqQ_ret ?_
      refine loopQ_ret ?_
      obtain rfl := Option.some.inj h
      exact RetE.ret (fl := [true]) (by kernel_rfl)
  · refine Wp.condF (b := (decide (a_22 < s0.fSize))) (by kernel_rfl) (by kernel_rfl) hb_23 ?_
    refine Wp.exitN (i := 0) (by kernel_rfl) ?_
    refine seqQ_exit ?_
    refine loopQ_exit ?_
    obtain rfl := Option.some.inj h
    exact Into.view (fun a w hv => SRx.renL [] hv (by kernel_rfl) (by kernel_rfl) (by kernel_rfl))
def spec_IsSystem (s0 : GSystem) : Option (Bool) :=
    (spec_l1Tables s0) >>= fun r_1_1 =>
    if r_1_1 = true then
      (spec_IsSystem_l2 (s0, 0)) >>= fun fl => match fl with
      | .inl () =>
        some true
      | .inr r =>
        some r
    else
      some false
def M_spec_IsSystem (s0 : GSystem) (r : Bool) : Prop :=
  FnSound Try.prog 98 [.agg [.int .i64 s0.fSize, .sl (List.map I s0.fPlus), .sl (List.map I s0.fTimes), .sl (List.map AV.bool s0.fBelow)]] (.bool r) []
theorem spec_IsSystem_s : ∀ p r, spec_IsSystem p = some r → M_spec_IsSystem p r := by
  rintro s0 r h
  unfold spec_IsSystem at h
  show FnSound Try.prog 98 [.agg [.int .i64 s0.fSize, .sl (List.map I s0.fPlus), .sl (List.map I s0.fTimes), .sl (List.map AV.bool s0.fBelow)]] (.bool r) []
  refine FnSound.body0 tiok (fn := Try.f98) (code := B98) (by kernel_rfl) (by kernel_rfl) (by kernel_rfl) (by kernel_rfl) (nt := 42) (by kernel_rfl) (by kernel_rfl) (T := [(0, .agg [.int .i64 s0.fSize, .sl (List.map I s0.fPlus), .sl (List.map I s0.fTimes), .sl (List.map AV.bool s0.fBelow)])]) (O := []) (by kernel_rfl) (by kernel_rfl) (fun c hc => ?_)
  refine Wp.seqN (by kernel_rfl) ?_
  refine Wp.reg tiok mix hc (by kernel_rfl) (ah := none) (rs := [some (.new 1), some (.no)]) (kt := [1]) (ko := [1]) (T' := [(1, .ra 1 0)]) (O' := [(1, .box [.int .i64 s0.fSize, .sl (List.map I s0.fPlus), .sl (List.map I s0.fTimes), .sl (List.map AV.bool s0.fBelow)])]) (by kernel_rfl) trivial (by kernel_rfl) (by kernel_rfl) ?_
  refine seqQ_norm ?_
  refine Wp.seqN (by kernel_rfl) ?_
  refine Wp.seqN (by kernel_rfl) ?_
  obtain ⟨r_1_1, hr_1_1, h⟩ := bsome h
  refine Wp.reg tiok mix hc (by kernel_rfl) (ah := none) (rs := [some (.no), some (.call (.bool r_1_1) [] 1), some (.no)]) (kt := [1, 8]) (ko := [1]) (T' := [(1, .ra 1 0), (8, .bool (!r_1_1))]) (O' := [(1, .box [.int .i64 s0.fSize, .sl (List.map I s0.fPlus), .sl (List.map I s0.fTimes), .sl (List.map AV.bool s0.fBelow)])]) (by kernel_rfl) (And.intro (spec_l1Tables_s _ _ hr_1_1) (And.intro bod_145 (And.intro (Or.inl rfl : ([] : List Nat) = [] ∨ noSh (.bool r_1_1) = true) trivial))) (by kernel_rfl) (by kernel_rfl) ?_
  refine seqQ_norm ?_
  rcases itesome h with ⟨hb_1, h⟩ | ⟨hb_1, h⟩
  · refine Wp.condF (b := (!r_1_1)) (by kernel_rfl) (by kernel_rfl) (nF hb_1) ?_
    refine Wp.skipN (by kernel_rfl) ?_
    refine seqQ_norm ?_
    refine Wp.seqN (by kernel_rfl) ?_
    refine Wp.seqN (by kernel_rfl) ?_
    refine Wp.reg tiok mix hc (by kernel_rfl) (ah := none) (rs := [some (.no)]) (kt := [1, 3]) (ko := [1]) (T' := [(1, .ra 1 0), (3, .int .i64 0)]) (O' := [(1, .box [.int .i64 s0.fSize, .sl (List.map I s0.fPlus), .sl (List.map I s0.fTimes), .sl (List.map AV.bool s0.fBelow)])]) (by kernel_rfl) trivial (by kernel_rfl) (by kernel_rfl) ?_
    refine seqQ_norm ?_
    refine Wp.blockN (i := 0) (by kernel_rfl) ?_
    obtain ⟨fl, hl_43, h⟩ := bsome h
    have hL := spec_IsSystem_l2_s _ _ hl_43 c hc
    refine Wp.loopN (by kernel_rfl) ?_
    rcases fl with ⟨⟩ | r
    · refine WpL.into (e := (.exit 0)) (mkS [] []) hL ?_
      refine blockQ_hit ?_
      refine seqQ_norm ?_
      refine Wp.seqN (by kernel_rfl) ?_
      refine Wp.reg tiok mix hc (by kernel_rfl) (ah := none) (rs := [some (.no)]) (kt := [2]) (ko := []) (T' := [(2, .bool true)]) (O' := []) (by kernel_rfl) trivial (by kernel_rfl) (by kernel_rfl) ?_
      refine seqQ_norm ?_
      refine Wp.retN (by kernel_rfl) ?_
      obtain rfl := Option.some.inj h
      exact RetQ.ret (fl := [true]) (by kernel_rfl)
    · refine WpL.mono hL ?_
      rintro _ _ ⟨rfl, hfin⟩
      refine blockQ_ret ?_
      refine seqQ_ret ?_
      obtain rfl := Option.some.inj h
      exact ⟨.inl rfl, hfin⟩
  · refine Wp.condT (b := (!r_1_1)) (by kernel_rfl) (by kernel_rfl) (nT hb_1) ?_
    refine Wp.seqN (by kernel_rfl) ?_
    refine Wp.reg tiok mix hc (by kernel_rfl) (ah := none) (rs := [some (.no)]) (kt := [2]) (ko := []) (T' := [(2, .bool false)]) (O' := []) (by kernel_rfl) trivial (by kernel_rfl) (by kernel_rfl) ?_
    refine seqQ_norm ?_
    refine Wp.retN (by kernel_rfl) ?_
    refine seqQ_ret ?_
    obtain rfl := Option.some.inj h
    exact RetQ.ret (fl := [true]) (by kernel_rfl)
def spec_l2Arrow (c0 : Int) : Option (Bool) :=
    (
      (spec_l1In (c0, 3, 18)) >>= fun r_1_1 =>
      if r_1_1 = true then
        some (true)
      else
        some ((c0 == 35))
    ) >>= fun v_1 =>
    some v_1
def M_spec_l2Arrow (c0 : Int) (r : Bool) : Prop :=
  FnSound Try.prog 158 [.int .i64 c0] (.bool r) []
theorem spec_l2Arrow_s : ∀ p r, spec_l2Arrow p = some r → M_spec_l2Arrow p r := by
  rintro c0 r h
  unfold spec_l2Arrow at h
  show FnSound Try.prog 158 [.int .i64 c0] (.bool r) []
  refine FnSound.body0 tiok (fn := Try.f158) (code := B158) (by kernel_rfl) (by kernel_rfl) (by kernel_rfl) (by kernel_rfl) (nt := 9) (by kernel_rfl) (by kernel_rfl) (T := [(0, .int .i64 c0)]) (O := []) (by kernel_rfl) (by kernel_rfl) (fun c hc => ?_)
  refine Wp.seqN (by kernel_rfl) ?_
  refine Wp.reg tiok mix hc (by kernel_rfl) (ah := none) (rs := [some (.no)]) (kt := [0]) (ko := []) (T' := [(0, .int .i64 c0)]) (O' := []) (by kernel_rfl) trivial (by kernel_rfl) (by kernel_rfl) ?_
  refine seqQ_norm ?_
  refine Wp.seqN (by kernel_rfl) ?_
  obtain ⟨v_1, hj_2, h⟩ := bsome h
  refine Wp.into (x := .normal) (mkS [(2, .bool v_1)] []) ?_ ?_
  · replace h := hj_2
    obtain ⟨r_1_1, hr_1_1, h⟩ := bsome h
    rcases itesome h with ⟨hb_1_0, h⟩ | ⟨hb_1_0, h⟩
    · refine Wp.reg tiok mix hc (by kernel_rfl) (ah := none) (rs := [some (.no), some (.call (.bool r_1_1) [] 1), some (.no), none, none, some (.cond true), some (.no)]) (kt := [2]) (ko := []) (T' := [(2, .bool true)]) (O' := []) (by kernel_rfl) (And.intro (spec_l1In_s _ _ hr_1_1) (And.intro bod_57 (And.intro (Or.inl rfl : ([] : List Nat) = [] ∨ noSh (.bool r_1_1) = true) (And.intro (neF hb_1_0 : r_1_1 ≠ false) (And.intro (neF hb_1_0 : r_1_1 ≠ false) (And.intro hb_1_0 trivial)))))) (by kernel_rfl) (by kernel_rfl) ?_
      obtain rfl := Option.some.inj h
      exact Into.mk
    · refine Wp.reg tiok mix hc (by kernel_rfl) (ah := none) (rs := [some (.no), some (.call (.bool r_1_1) [] 1), some (.no), some (.no), some (.no), some (.cond false), some (.no)]) (kt := [2]) (ko := []) (T' := [(2, .bool (c0 == 35))]) (O' := []) (by kernel_rfl) (And.intro (spec_l1In_s _ _ hr_1_1) (And.intro bod_57 (And.intro (Or.inl rfl : ([] : List Nat) = [] ∨ noSh (.bool r_1_1) = true) (And.intro hb_1_0 (And.intro hb_1_0 (And.intro hb_1_0 trivial)))))) (by kernel_rfl) (by kernel_rfl) ?_
      obtain rfl := Option.some.inj h
      exact Into.mk
  · clear hj_2
    refine seqQ_norm ?_
    refine Wp.retN (by kernel_rfl) ?_
    obtain rfl := Option.some.inj h
    exact RetQ.ret (fl := [true]) (by kernel_rfl)
def spec_l2Box (c0 : Int) : Option (Bool) :=
    (
      (spec_l1In (c0, 19, 34)) >>= fun r_1_1 =>
      if r_1_1 = true then
        some (true)
      else
        some ((c0 == 36))
    ) >>= fun v_1 =>
    some v_1
def M_spec_l2Box (c0 : Int) (r : Bool) : Prop :=
  FnSound Try.prog 100 [.int .i64 c0] (.bool r) []
theorem spec_l2Box_s : ∀ p r, spec_l2Box p = some r → M_spec_l2Box p r := by
  rintro c0 r h
  unfold spec_l2Box at h
  show FnSound Try.prog 100 [.int .i64 c0] (.bool r) []
  refine FnSound.body0 tiok (fn := Try.f100) (code := B100) (by kernel_rfl) (by kernel_rfl) (by kernel_rfl) (by kernel_rfl) (nt := 9) (by kernel_rfl) (by kernel_rfl) (T := [(0, .int .i64 c0)]) (O := []) (by kernel_rfl) (by kernel_rfl) (fun c hc => ?_)
  refine Wp.seqN (by kernel_rfl) ?_
  refine Wp.reg tiok mix hc (by kernel_rfl) (ah := none) (rs := [some (.no)]) (kt := [0]) (ko := []) (T' := [(0, .int .i64 c0)]) (O' := []) (by kernel_rfl) trivial (by kernel_rfl) (by kernel_rfl) ?_
  refine seqQ_norm ?_
  refine Wp.seqN (by kernel_rfl) ?_
  obtain ⟨v_1, hj_2, h⟩ := bsome h
  refine Wp.into (x := .normal) (mkS [(2, .bool v_1)] []) ?_ ?_
  · replace h := hj_2
    obtain ⟨r_1_1, hr_1_1, h⟩ := bsome h
    rcases itesome h with ⟨hb_1_0, h⟩ | ⟨hb_1_0, h⟩
    · refine Wp.reg tiok mix hc (by kernel_rfl) (ah := none) (rs := [some (.no), some (.call (.bool r_1_1) [] 1), some (.no), none, none, some (.cond true), some (.no)]) (kt := [2]) (ko := []) (T' := [(2, .bool true)]) (O' := []) (by kernel_rfl) (And.intro (spec_l1In_s _ _ hr_1_1) (And.intro bod_57 (And.intro (Or.inl rfl : ([] : List Nat) = [] ∨ noSh (.bool r_1_1) = true) (And.intro (neF hb_1_0 : r_1_1 ≠ false) (And.intro (neF hb_1_0 : r_1_1 ≠ false) (And.intro hb_1_0 trivial)))))) (by kernel_rfl) (by kernel_rfl) ?_
      obtain rfl := Option.some.inj h
      exact Into.mk
    · refine Wp.reg tiok mix hc (by kernel_rfl) (ah := none) (rs := [some (.no), some (.call (.bool r_1_1) [] 1), some (.no), some (.no), some (.no), some (.cond false), some (.no)]) (kt := [2]) (ko := []) (T' := [(2, .bool (c0 == 36))]) (O' := []) (by kernel_rfl) (And.intro (spec_l1In_s _ _ hr_1_1) (And.intro bod_57 (And.intro (Or.inl rfl : ([] : List Nat) = [] ∨ noSh (.bool r_1_1) = true) (And.intro hb_1_0 (And.intro hb_1_0 (And.intro hb_1_0 trivial)))))) (by kernel_rfl) (by kernel_rfl) ?_
      obtain rfl := Option.some.inj h
      exact Into.mk
  · clear hj_2
    refine seqQ_norm ?_
    refine Wp.retN (by kernel_rfl) ?_
    obtain rfl := Option.some.inj h
    exact RetQ.ret (fl := [true]) (by kernel_rfl)
end Go.Am
