/- Functions of the program as pure functions, and that it computes them. Printed by a program of mine (gen.py). -/
import Derived.Test.YtfakfcaegabgaaaGIVF4
set_option linter.unusedVariables false
set_option linter.unusedSimpArgs false
set_option maxRecDepth 100000
namespace Go.Am
open Go Go.Proofs
def impl_IsSystem_l2 (p : GSystem × Int × Int) : Option ((Unit) ⊕ (Bool)) :=
  match p with
  | (s0, a_40, b_55) =>
    if (decide (b_55 < s0.fSize)) = true then
      (
        (impl_Systemplus (s0, a_40, b_55)) >>= fun r_18_3 =>
        (impl_Systemplus (s0, b_55, a_40)) >>= fun r_18_7 =>
        if (r_18_3 != r_18_7) = true then
          some (true)
        else
          if (a_40 != b_55) = true then
            (impl_Systembelow (s0, a_40, b_55)) >>= fun r_18_17 =>
            if r_18_17 = true then
              (impl_Systembelow (s0, b_55, a_40)) >>= fun r_18_23 =>
              if r_18_23 = true then
                some (true)
              else
                (impl_Systemjoin (s0, a_40, b_55)) >>= fun r_18_30 =>
                some ((decide (r_18_30 < 0)))
            else
              (impl_Systemjoin (s0, a_40, b_55)) >>= fun r_18_30 =>
              some ((decide (r_18_30 < 0)))
          else
            (impl_Systemjoin (s0, a_40, b_55)) >>= fun r_18_30 =>
            some ((decide (r_18_30 < 0)))
      ) >>= fun v_57 =>
      if v_57 = true then
        some (.inr false)
      else
        (impl_IsSystem_l1 (s0, a_40, b_55, 0)) >>= fun fl => match fl with
        | .inl () =>
          impl_IsSystem_l2 (s0, a_40, (wr (b_55 + 1)))
        | .inr r =>
          some (.inr r)
    else
      some (.inl ())
  partial_fixpoint
def M_impl_IsSystem_l2 (p : GSystem × Int × Int) (fl : (Unit) ⊕ (Bool)) : Prop :=
  match p with
  | (s0, a_40, b_55) => ∀ c : Ctx, c.nt = 157 → WpL Try.prog c (cl (cl (cr (cr (cl (cl (cr (cl (cl (cr (cl (cr (cr (cr (cr B89))))))))))))))) (impl_IsSystem_F3 c s0 a_40 fl) (mkS [(1, .ra 1 0), (3, .int .i64 s0.fSize), (5, .int .i64 a_40), (6, .int .i64 b_55)] [(1, .box [.int .i64 s0.fSize, .sl (List.map I s0.fPlus), .sl (List.map I s0.fTimes), .sl (List.map AV.bool s0.fBelow)])])
theorem impl_IsSystem_l2_s : ∀ p r, impl_IsSystem_l2 p = some r → M_impl_IsSystem_l2 p r := by
  refine impl_IsSystem_l2.partial_correctness M_impl_IsSystem_l2 ?_
  rintro impl_IsSystem_l2_f impl_IsSystem_l2_ih ⟨s0, a_40, b_55⟩ r h
  intro c hc
  show WpL Try.prog c (cl (cl (cr (cr (cl (cl (cr (cl (cl (cr (cl (cr (cr (cr (cr B89))))))))))))))) (impl_IsSystem_F3 c s0 a_40 r) (mkS [(1, .ra 1 0), (3, .int .i64 s0.fSize), (5, .int .i64 a_40), (6, .int .i64 b_55)] [(1, .box [.int .i64 s0.fSize, .sl (List.map I s0.fPlus), .sl (List.map I s0.fTimes), .sl (List.map AV.bool s0.fBelow)])])
  refine WpL.step ?_
  refine Wp.seqN (by kernel_rfl) ?_
  refine Wp.seqN (by kernel_rfl) ?_
  refine Wp.reg tiok mix hc (by kernel_rfl) (ah := none) (rs := [some (.no), some (.no), some (.no)]) (kt := [1, 3, 5, 6, 110]) (ko := [1]) (T' := [(1, .ra 1 0), (3, .int .i64 s0.fSize), (5, .int .i64 a_40), (6, .int .i64 b_55), (110, .bool (decide (b_55 < s0.fSize)))]) (O' := [(1, .box [.int .i64 s0.fSize, .sl (List.map I s0.fPlus), .sl (List.map I s0.fTimes), .sl (List.map AV.bool s0.fBelow)])]) (by kernel_rfl) trivial (by kernel_rfl) (by kernel_rfl) ?_
  refine seqQ_norm ?_
  rcases itesome h with ⟨hb_56, h⟩ | ⟨hb_56, h⟩
  · refine Wp.condT (b := (decide (b_55 < s0.fSize))) (by kernel_rfl) (by kernel_rfl) hb_56 ?_
    refine Wp.skipN (by kernel_rfl) ?_
    refine seqQ_norm ?_
    refine Wp.seqN (by kernel_rfl) ?_
    refine Wp.blockN (i := 5) (by kernel_rfl) ?_
    refine Wp.seqN (by kernel_rfl) ?_
    refine Wp.seqN (by kernel_rfl) ?_
    obtain ⟨v_57, hj_58, h⟩ := bsome h
    refine Wp.into (x := .normal) (mkS [(1, .ra 1 0), (3, .int .i64 s0.fSize), (5, .int .i64 a_40), (6, .int .i64 b_55), (145, .bool v_57)] [(1, .box [.int .i64 s0.fSize, .sl (List.map I s0.fPlus), .sl (List.map I s0.fTimes), .sl (List.map AV.bool s0.fBelow)])]) ?_ ?_
    · replace h := hj_58
      obtain ⟨r_18_3, hr_18_3, h⟩ := bsome h
      obtain ⟨r_18_7, hr_18_7, h⟩ := bsome h
      rcases itesome h with ⟨hb_18_0, h⟩ | ⟨hb_18_0, h⟩
      · refine Wp.reg tiok mix hc (by kernel_rfl) (ah := (some [[], [], [], [0, 1, 2], [], [], [], [0, 1, 2, 3, 4, 5, 6], [0, 1, 2, 3, 4, 5, 6, 7], [0, 1, 2, 3, 4, 5, 6, 7, 8], [0, 1, 2, 3, 4, 5, 6, 7, 8, 9], [0, 1, 2, 3, 4, 5, 6, 7, 8, 9], [0, 1, 2, 3, 4, 5, 6, 7, 8, 9, 10, 11], [0, 1, 2, 3, 4, 5, 6, 7, 8, 9, 10, 11, 12], [0, 1, 2, 3, 4, 5, 6, 7, 8, 9, 10, 11, 12, 13], [0, 1, 2, 3, 4, 5, 6, 7, 8, 9, 10, 11, 12, 13], [0, 1, 2, 3, 4, 5, 6, 7, 8, 9, 10, 11, 12, 13], [0, 1, 2, 3, 4, 5, 6, 7, 8, 9, 10, 11, 12, 13, 14, 15, 16], [0, 1, 2, 3, 4, 5, 6, 7, 8, 9, 10, 11, 12, 13, 14, 15, 16, 17], [0, 1, 2, 3, 4, 5, 6, 7, 8, 9, 10, 11, 12, 13, 14, 15, 16, 17, 18], [0, 1, 2, 3, 4, 5, 6, 7, 8, 9, 10, 11, 12, 13, 14, 15, 16, 17, 18, 19], [0, 1, 2, 3, 4, 5, 6, 7, 8, 9, 10, 11, 12, 13, 14, 15, 16, 17, 18, 19], [0, 1, 2, 3, 4, 5, 6, 7, 8, 9, 10, 11, 12, 13, 14, 15, 16, 17, 18, 19], [0, 1, 2, 3, 4, 5, 6, 7, 8, 9, 10, 11, 12, 13, 14, 15, 16, 17, 18, 19, 20, 21, 22], [0, 1, 2, 3, 4, 5, 6, 7, 8, 9, 10, 11, 12, 13, 14, 15, 16, 17, 18, 19, 20, 21, 22, 23], [0, 1, 2, 3, 4, 5, 6, 7, 8, 9, 10, 11, 12, 13, 14, 15, 16, 17, 18, 19, 20, 21, 22, 23, 24], [0, 1, 2, 3, 4, 5, 6, 7, 8, 9, 10, 11, 12, 13, 14, 15, 16, 17, 18, 19, 20, 21, 22, 23, 24, 25], [0, 1, 2, 3, 4, 5, 6, 7, 8, 9, 10, 11, 12, 13, 14, 15, 16, 17, 18, 19, 20, 21, 22, 23, 24, 25, 26], [0, 1, 2, 3, 4, 5, 6, 7, 8, 9, 10, 11, 12, 13, 14, 15, 16, 17, 18, 19, 20, 21, 22, 23, 24, 25, 26], [0, 1, 2, 3, 4, 5, 6, 7, 8, 9, 10, 11, 12, 13, 14, 15, 16, 17, 18, 19, 20, 21, 22, 23, 24, 25, 26], [0, 1, 2, 3, 4, 5, 6, 7, 8, 9, 10, 11, 12, 13, 14, 15, 16, 17, 18, 19, 20, 21, 22, 23, 24, 25, 26, 27, 28, 29], [0, 1, 2, 3, 4, 5, 6, 7, 8, 9, 10, 11, 12, 13, 14, 15, 16, 17, 18, 19, 20, 21, 22, 23, 24, 25, 26, 27, 28, 29, 30], [0, 1, 2, 3, 4, 5, 6, 7, 8, 9, 10, 11, 12, 13, 14, 15, 16, 17, 18, 19, 20, 21, 22, 23, 24, 25, 26, 27, 28, 29, 30, 31]])) (rs := [some (.no), some (.no), some (.no), some (.call (.int .i64 r_18_3) [] 1), some (.no), some (.no), some (.no), some (.call (.int .i64 r_18_7) [] 1), some (.no), some (.no), none, none, none, none, none, none, none, none, none, none, none, none, none, none, none, some (.cond true), some (.no), none, none, none, none, none, some (.cond true)]) (kt := [1, 3, 5, 6, 145]) (ko := [1]) (T' := [(1, .ra 1 0), (3, .int .i64 s0.fSize), (5, .int .i64 a_40), (6, .int .i64 b_55), (145, .bool true)]) (O' := [(1, .box [.int .i64 s0.fSize, .sl (List.map I s0.fPlus), .sl (List.map I s0.fTimes), .sl (List.map AV.bool s0.fBelow)])]) (by kernel_rfl) (And.intro (impl_Systemplus_s _ _ hr_18_3) (And.intro bod_137 (And.intro (Or.inl rfl : ([] : List Nat) = [] ∨ noSh (.int .i64 r_18_3) = true) (And.intro (impl_Systemplus_s _ _ hr_18_7) (And.intro bod_137 (And.intro (Or.inl rfl : ([] : List Nat) = [] ∨ noSh (.int .i64 r_18_7) = true) (And.intro (neF hb_18_0 : (r_18_3 != r_18_7) ≠ false) (And.intro (neF hb_18_0 : (r_18_3 != r_18_7) ≠ false) (And.intro (neF hb_18_0 : (r_18_3 != r_18_7) ≠ false) (And.intro (neF hb_18_0 : (r_18_3 != r_18_7) ≠ false) (And.intro (neF hb_18_0 : (r_18_3 != r_18_7) ≠ false) (And.intro (neF hb_18_0 : (r_18_3 != r_18_7) ≠ false) (And.intro (neF hb_18_0 : (r_18_3 != r_18_7) ≠ false) (And.intro hb_18_0 (And.intro (neF (rfl : true = true) : true ≠ false) (And.intro (neF (rfl : true = true) : true ≠ false) (And.intro (neF (rfl : true = true) : true ≠ false) (And.intro (neF (rfl : true = true) : true ≠ false) (And.intro (neF (rfl : true = true) : true ≠ false) (And.intro (rfl : true = true) trivial)))))))))))))))))))) (by kernel_rfl) (by kernel_rfl) ?_
        obtain rfl := Option.some.inj h
        exact Into.mk
      · rcases itesome h with ⟨hb_18_1, h⟩ | ⟨hb_18_1, h⟩
        · obtain ⟨r_18_17, hr_18_17, h⟩ := bsome h
          rcases itesome h with ⟨hb_18_2, h⟩ | ⟨hb_18_2, h⟩
          · obtain ⟨r_18_23, hr_18_23, h⟩ := bsome h
            rcases itesome h with ⟨hb_18_3, h⟩ | ⟨hb_18_3, h⟩
            · refine Wp.reg tiok mix hc (by kernel_rfl) (ah := (some [[], [], [], [0, 1, 2], [], [], [], [0, 1, 2, 3, 4, 5, 6], [0, 1, 2, 3, 4, 5, 6, 7], [0, 1, 2, 3, 4, 5, 6, 7, 8], [0, 1, 2, 3, 4, 5, 6, 7, 8, 9], [0, 1, 2, 3, 4, 5, 6, 7, 8, 9], [0, 1, 2, 3, 4, 5, 6, 7, 8, 9, 10, 11], [0, 1, 2, 3, 4, 5, 6, 7, 8, 9, 10, 11, 12], [0, 1, 2, 3, 4, 5, 6, 7, 8, 9, 10, 11, 12, 13], [0, 1, 2, 3, 4, 5, 6, 7, 8, 9, 10, 11, 12, 13], [0, 1, 2, 3, 4, 5, 6, 7, 8, 9, 10, 11, 12, 13], [0, 1, 2, 3, 4, 5, 6, 7, 8, 9, 10, 11, 12, 13, 14, 15, 16], [0, 1, 2, 3, 4, 5, 6, 7, 8, 9, 10, 11, 12, 13, 14, 15, 16, 17], [0, 1, 2, 3, 4, 5, 6, 7, 8, 9, 10, 11, 12, 13, 14, 15, 16, 17, 18], [0, 1, 2, 3, 4, 5, 6, 7, 8, 9, 10, 11, 12, 13, 14, 15, 16, 17, 18, 19], [0, 1, 2, 3, 4, 5, 6, 7, 8, 9, 10, 11, 12, 13, 14, 15, 16, 17, 18, 19], [0, 1, 2, 3, 4, 5, 6, 7, 8, 9, 10, 11, 12, 13, 14, 15, 16, 17, 18, 19], [0, 1, 2, 3, 4, 5, 6, 7, 8, 9, 10, 11, 12, 13, 14, 15, 16, 17, 18, 19, 20, 21, 22], [0, 1, 2, 3, 4, 5, 6, 7, 8, 9, 10, 11, 12, 13, 14, 15, 16, 17, 18, 19, 20, 21, 22, 23], [0, 1, 2, 3, 4, 5, 6, 7, 8, 9, 10, 11, 12, 13, 14, 15, 16, 17, 18, 19, 20, 21, 22, 23, 24], [0, 1, 2, 3, 4, 5, 6, 7, 8, 9, 10, 11, 12, 13, 14, 15, 16, 17, 18, 19, 20, 21, 22, 23, 24, 25], [0, 1, 2, 3, 4, 5, 6, 7, 8, 9, 10, 11, 12, 13, 14, 15, 16, 17, 18, 19, 20, 21, 22, 23, 24, 25, 26], [0, 1, 2, 3, 4, 5, 6, 7, 8, 9, 10, 11, 12, 13, 14, 15, 16, 17, 18, 19, 20, 21, 22, 23, 24, 25, 26], [0, 1, 2, 3, 4, 5, 6, 7, 8, 9, 10, 11, 12, 13, 14, 15, 16, 17, 18, 19, 20, 21, 22, 23, 24, 25, 26], [0, 1, 2, 3, 4, 5, 6, 7, 8, 9, 10, 11, 12, 13, 14, 15, 16, 17, 18, 19, 20, 21, 22, 23, 24, 25, 26, 27, 28, 29], [0, 1, 2, 3, 4, 5, 6, 7, 8, 9, 10, 11, 12, 13, 14, 15, 16, 17, 18, 19, 20, 21, 22, 23, 24, 25, 26, 27, 28, 29, 30], [0, 1, 2, 3, 4, 5, 6, 7, 8, 9, 10, 11, 12, 13, 14, 15, 16, 17, 18, 19, 20, 21, 22, 23, 24, 25, 26, 27, 28, 29, 30, 31]])) (rs := [some (.no), some (.no), some (.no), some (.call (.int .i64 r_18_3) [] 1), some (.no), some (.no), some (.no), some (.call (.int .i64 r_18_7) [] 1), some (.no), some (.no), some (.no), some (.no), some (.no), some (.no), some (.no), some (.no), some (.no), some (.call (.bool r_18_17) [] 1), some (.cond true), some (.no), some (.no), some (.no), some (.no), some (.call (.bool r_18_23) [] 1), some (.cond true), some (.cond false), some (.no), none, none, none, none, none, some (.cond true)]) (kt := [1, 3, 5, 6, 145]) (ko := [1]) (T' := [(1, .ra 1 0), (3, .int .i64 s0.fSize), (5, .int .i64 a_40), (6, .int .i64 b_55), (145, .bool true)]) (O' := [(1, .box [.int .i64 s0.fSize, .sl (List.map I s0.fPlus), .sl (List.map I s0.fTimes), .sl (List.map AV.bool s0.fBelow)])]) (by kernel_rfl) (And.intro (impl_Systemplus_s _ _ hr_18_3) (And.intro bod_137 (And.intro (Or.inl rfl : ([] : List Nat) = [] ∨ noSh (.int .i64 r_18_3) = true) (And.intro (impl_Systemplus_s _ _ hr_18_7) (And.intro bod_137 (And.intro (Or.inl rfl : ([] : List Nat) = [] ∨ noSh (.int .i64 r_18_7) = true) (And.intro hb_18_0 (And.intro hb_18_0 (And.intro hb_18_0 (And.intro hb_18_0 (And.intro hb_18_1 (And.intro hb_18_1 (And.intro hb_18_1 (And.intro hb_18_1 (And.intro (impl_Systembelow_s _ _ hr_18_17) (And.intro bod_139 (And.intro (Or.inl rfl : ([] : List Nat) = [] ∨ noSh (.bool r_18_17) = true) (And.intro hb_18_0 (And.intro hb_18_1 (And.intro hb_18_0 (And.intro hb_18_2 (And.intro hb_18_2 (And.intro hb_18_2 (And.intro hb_18_2 (And.intro (impl_Systembelow_s _ _ hr_18_23) (And.intro bod_139 (And.intro (Or.inl rfl : ([] : List Nat) = [] ∨ noSh (.bool r_18_23) = true) (And.intro hb_18_0 (And.intro hb_18_2 (And.intro hb_18_0 (And.intro (neF hb_18_3 : r_18_23 ≠ false) (And.intro (neF hb_18_3 : r_18_23 ≠ false) (And.intro (neF hb_18_3 : r_18_23 ≠ false) (And.intro (neF hb_18_3 : r_18_23 ≠ false) (And.intro (neF hb_18_3 : r_18_23 ≠ false) (And.intro hb_18_3 trivial)))))))))))))))))))))))))))))))))))) (by kernel_rfl) (by kernel_rfl) ?_
              obtain rfl := Option.some.inj h
              exact Into.mk
            · obtain ⟨r_18_30, hr_18_30, h⟩ := bsome h
              refine Wp.reg tiok mix hc (by kernel_rfl) (ah := (some [[], [], [], [0, 1, 2], [], [], [], [0, 1, 2, 3, 4, 5, 6], [0, 1, 2, 3, 4, 5, 6, 7], [0, 1, 2, 3, 4, 5, 6, 7, 8], [0, 1, 2, 3, 4, 5, 6, 7, 8, 9], [0, 1, 2, 3, 4, 5, 6, 7, 8, 9], [0, 1, 2, 3, 4, 5, 6, 7, 8, 9, 10, 11], [0, 1, 2, 3, 4, 5, 6, 7, 8, 9, 10, 11, 12], [0, 1, 2, 3, 4, 5, 6, 7, 8, 9, 10, 11, 12, 13], [0, 1, 2, 3, 4, 5, 6, 7, 8, 9, 10, 11, 12, 13], [0, 1, 2, 3, 4, 5, 6, 7, 8, 9, 10, 11, 12, 13], [0, 1, 2, 3, 4, 5, 6, 7, 8, 9, 10, 11, 12, 13, 14, 15, 16], [0, 1, 2, 3, 4, 5, 6, 7, 8, 9, 10, 11, 12, 13, 14, 15, 16, 17], [0, 1, 2, 3, 4, 5, 6, 7, 8, 9, 10, 11, 12, 13, 14, 15, 16, 17, 18], [0, 1, 2, 3, 4, 5, 6, 7, 8, 9, 10, 11, 12, 13, 14, 15, 16, 17, 18, 19], [0, 1, 2, 3, 4, 5, 6, 7, 8, 9, 10, 11, 12, 13, 14, 15, 16, 17, 18, 19], [0, 1, 2, 3, 4, 5, 6, 7, 8, 9, 10, 11, 12, 13, 14, 15, 16, 17, 18, 19], [0, 1, 2, 3, 4, 5, 6, 7, 8, 9, 10, 11, 12, 13, 14, 15, 16, 17, 18, 19, 20, 21, 22], [0, 1, 2, 3, 4, 5, 6, 7, 8, 9, 10, 11, 12, 13, 14, 15, 16, 17, 18, 19, 20, 21, 22, 23], [0, 1, 2, 3, 4, 5, 6, 7, 8, 9, 10, 11, 12, 13, 14, 15, 16, 17, 18, 19, 20, 21, 22, 23, 24], [0, 1, 2, 3, 4, 5, 6, 7, 8, 9, 10, 11, 12, 13, 14, 15, 16, 17, 18, 19, 20, 21, 22, 23, 24, 25], [0, 1, 2, 3, 4, 5, 6, 7, 8, 9, 10, 11, 12, 13, 14, 15, 16, 17, 18, 19, 20, 21, 22, 23, 24, 25, 26], [0, 1, 2, 3, 4, 5, 6, 7, 8, 9, 10, 11, 12, 13, 14, 15, 16, 17, 18, 19, 20, 21, 22, 23, 24, 25, 26], [0, 1, 2, 3, 4, 5, 6, 7, 8, 9, 10, 11, 12, 13, 14, 15, 16, 17, 18, 19, 20, 21, 22, 23, 24, 25, 26], [0, 1, 2, 3, 4, 5, 6, 7, 8, 9, 10, 11, 12, 13, 14, 15, 16, 17, 18, 19, 20, 21, 22, 23, 24, 25, 26, 27, 28, 29], [0, 1, 2, 3, 4, 5, 6, 7, 8, 9, 10, 11, 12, 13, 14, 15, 16, 17, 18, 19, 20, 21, 22, 23, 24, 25, 26, 27, 28, 29, 30], [0, 1, 2, 3, 4, 5, 6, 7, 8, 9, 10, 11, 12, 13, 14, 15, 16, 17, 18, 19, 20, 21, 22, 23, 24, 25, 26, 27, 28, 29, 30, 31]])) (rs := [some (.no), some (.no), some (.no), some (.call (.int .i64 r_18_3) [] 1), some (.no), some (.no), some (.no), some (.call (.int .i64 r_18_7) [] 1), some (.no), some (.no), some (.no), some (.no), some (.no), some (.no), some (.no), some (.no), some (.no), some (.call (.bool r_18_17) [] 1), some (.cond true), some (.no), some (.no), some (.no), some (.no), some (.call (.bool r_18_23) [] 1), some (.cond true), some (.cond false), some (.no), some (.no), some (.no), some (.no), some (.call (.int .i64 r_18_30) [] 1), some (.no), some (.cond false)]) (kt := [1, 3, 5, 6, 145]) (ko := [1]) (T' := [(1, .ra 1 0), (3, .int .i64 s0.fSize), (5, .int .i64 a_40), (6, .int .i64 b_55), (145, .bool (decide (r_18_30 < 0)))]) (O' := [(1, .box [.int .i64 s0.fSize, .sl (List.map I s0.fPlus), .sl (List.map I s0.fTimes), .sl (List.map AV.bool s0.fBelow)])]) (by kernel_rfl) (And.intro (impl_Systemplus_s _ _ hr_18_3) (And.intro bod_137 (And.intro (Or.inl rfl : ([] : List Nat) = [] ∨ noSh (.int .i64 r_18_3) = true) (And.intro (impl_Systemplus_s _ _ hr_18_7) (And.intro bod_137 (And.intro (Or.inl rfl : ([] : List Nat) = [] ∨ noSh (.int .i64 r_18_7) = true) (And.intro hb_18_0 (And.intro hb_18_0 (And.intro hb_18_0 (And.intro hb_18_0 (And.intro hb_18_1 (And.intro hb_18_1 (And.intro hb_18_1 (And.intro hb_18_1 (And.intro (impl_Systembelow_s _ _ hr_18_17) (And.intro bod_139 (And.intro (Or.inl rfl : ([] : List Nat) = [] ∨ noSh (.bool r_18_17) = true) (And.intro hb_18_0 (And.intro hb_18_1 (And.intro hb_18_0 (And.intro hb_18_2 (And.intro hb_18_2 (And.intro hb_18_2 (And.intro hb_18_2 (And.intro (impl_Systembelow_s _ _ hr_18_23) (And.intro bod_139 (And.intro (Or.inl rfl : ([] : List Nat) = [] ∨ noSh (.bool r_18_23) = true) (And.intro hb_18_0 (And.intro hb_18_2 (And.intro hb_18_0 (And.intro hb_18_3 (And.intro hb_18_3 (And.intro hb_18_3 (And.intro hb_18_3 (And.intro (impl_Systemjoin_s _ _ hr_18_30) (And.intro bod_140 (And.intro (Or.inl rfl : ([] : List Nat) = [] ∨ noSh (.int .i64 r_18_30) = true) (And.intro hb_18_3 (And.intro hb_18_3 trivial))))))))))))))))))))))))))))))))))))))) (by kernel_rfl) (by kernel_rfl) ?_
              obtain rfl := Option.some.inj h
              exact Into.mk
          · obtain ⟨r_18_30, hr_18_30, h⟩ := bsome h
            refine Wp.reg tiok mix hc (by kernel_rfl) (ah := (some [[], [], [], [0, 1, 2], [], [], [], [0, 1, 2, 3, 4, 5, 6], [0, 1, 2, 3, 4, 5, 6, 7], [0, 1, 2, 3, 4, 5, 6, 7, 8], [0, 1, 2, 3, 4, 5, 6, 7, 8, 9], [0, 1, 2, 3, 4, 5, 6, 7, 8, 9], [0, 1, 2, 3, 4, 5, 6, 7, 8, 9, 10, 11], [0, 1, 2, 3, 4, 5, 6, 7, 8, 9, 10, 11, 12], [0, 1, 2, 3, 4, 5, 6, 7, 8, 9, 10, 11, 12, 13], [0, 1, 2, 3, 4, 5, 6, 7, 8, 9, 10, 11, 12, 13], [0, 1, 2, 3, 4, 5, 6, 7, 8, 9, 10, 11, 12, 13], [0, 1, 2, 3, 4, 5, 6, 7, 8, 9, 10, 11, 12, 13, 14, 15, 16], [0, 1, 2, 3, 4, 5, 6, 7, 8, 9, 10, 11, 12, 13, 14, 15, 16, 17], [0, 1, 2, 3, 4, 5, 6, 7, 8, 9, 10, 11, 12, 13, 14, 15, 16, 17, 18], [0, 1, 2, 3, 4, 5, 6, 7, 8, 9, 10, 11, 12, 13, 14, 15, 16, 17, 18, 19], [0, 1, 2, 3, 4, 5, 6, 7, 8, 9, 10, 11, 12, 13, 14, 15, 16, 17, 18, 19], [0, 1, 2, 3, 4, 5, 6, 7, 8, 9, 10, 11, 12, 13, 14, 15, 16, 17, 18, 19], [0, 1, 2, 3, 4, 5, 6, 7, 8, 9, 10, 11, 12, 13, 14, 15, 16, 17, 18, 19, 20, 21, 22], [0, 1, 2, 3, 4, 5, 6, 7, 8, 9, 10, 11, 12, 13, 14, 15, 16, 17, 18, 19, 20, 21, 22, 23], [0, 1, 2, 3, 4, 5, 6, 7, 8, 9, 10, 11, 12, 13, 14, 15, 16, 17, 18, 19, 20, 21, 22, 23, 24], [0, 1, 2, 3, 4, 5, 6, 7, 8, 9, 10, 11, 12, 13, 14, 15, 16, 17, 18, 19, 20, 21, 22, 23, 24, 25], [0, 1, 2, 3, 4, 5, 6, 7, 8, 9, 10, 11, 12, 13, 14, 15, 16, 17, 18, 19, 20, 21, 22, 23, 24, 25, 26], [0, 1, 2, 3, 4, 5, 6, 7, 8, 9, 10, 11, 12, 13, 14, 15, 16, 17, 18, 19, 20, 21, 22, 23, 24, 25, 26], [0, 1, 2, 3, 4, 5, 6, 7, 8, 9, 10, 11, 12, 13, 14, 15, 16, 17, 18, 19, 20, 21, 22, 23, 24, 25, 26], [0, 1, 2, 3, 4, 5, 6, 7, 8, 9, 10, 11, 12, 13, 14, 15, 16, 17, 18, 19, 20, 21, 22, 23, 24, 25, 26, 27, 28, 29], [0, 1, 2, 3, 4, 5, 6, 7, 8, 9, 10, 11, 12, 13, 14, 15, 16, 17, 18, 19, 20, 21, 22, 23, 24, 25, 26, 27, 28, 29, 30], [0, 1, 2, 3, 4, 5, 6, 7, 8, 9, 10, 11, 12, 13, 14, 15, 16, 17, 18, 19, 20, 21, 22, 23, 24, 25, 26, 27, 28, 29, 30, 31]])) (rs := [some (.no), some (.no), some (.no), some (.call (.int .i64 r_18_3) [] 1), some (.no), some (.no), some (.no), some (.call (.int .i64 r_18_7) [] 1), some (.no), some (.no), some (.no), some (.no), some (.no), some (.no), some (.no), some (.no), some (.no), some (.call (.bool r_18_17) [] 1), some (.cond true), some (.no), none, none, none, none, some (.cond false), some (.cond false), some (.no), some (.no), some (.no), some (.no), some (.call (.int .i64 r_18_30) [] 1), some (.no), some (.cond false)]) (kt := [1, 3, 5, 6, 145]) (ko := [1]) (T' := [(1, .ra 1 0), (3, .int .i64 s0.fSize), (5, .int .i64 a_40), (6, .int .i64 b_55), (145, .bool (decide (r_18_30 < 0)))]) (O' := [(1, .box [.int .i64 s0.fSize, .sl (List.map I s0.fPlus), .sl (List.map I s0.fTimes), .sl (List.map AV.bool s0.fBelow)])]) (by kernel_rfl) (And.intro (impl_Systemplus_s _ _ hr_18_3) (And.intro bod_137 (And.intro (Or.inl rfl : ([] : List Nat) = [] ∨ noSh (.int .i64 r_18_3) = true) (And.intro (impl_Systemplus_s _ _ hr_18_7) (And.intro bod_137 (And.intro (Or.inl rfl : ([] : List Nat) = [] ∨ noSh (.int .i64 r_18_7) = true) (And.intro hb_18_0 (And.intro hb_18_0 (And.intro hb_18_0 (And.intro hb_18_0 (And.intro hb_18_1 (And.intro hb_18_1 (And.intro hb_18_1 (And.intro hb_18_1 (And.intro (impl_Systembelow_s _ _ hr_18_17) (And.intro bod_139 (And.intro (Or.inl rfl : ([] : List Nat) = [] ∨ noSh (.bool r_18_17) = true) (And.intro hb_18_0 (And.intro hb_18_1 (And.intro hb_18_0 (And.intro (neT hb_18_2 : r_18_17 ≠ true) (And.intro (neT hb_18_2 : r_18_17 ≠ true) (And.intro (neT hb_18_2 : r_18_17 ≠ true) (And.intro (neT hb_18_2 : r_18_17 ≠ true) (And.intro hb_18_0 (And.intro hb_18_2 (And.intro hb_18_0 (And.intro (rfl : false = false) (And.intro (rfl : false = false) (And.intro (rfl : false = false) (And.intro (rfl : false = false) (And.intro (impl_Systemjoin_s _ _ hr_18_30) (And.intro bod_140 (And.intro (Or.inl rfl : ([] : List Nat) = [] ∨ noSh (.int .i64 r_18_30) = true) (And.intro (rfl : false = false) (And.intro (rfl : false = false) trivial)))))))))))))))))))))))))))))))))))) (by kernel_rfl) (by kernel_rfl) ?_
            obtain rfl := Option.some.inj h
            exact Into.mk
        · obtain ⟨r_18_30, hr_18_30, h⟩ := bsome h
          refine Wp.reg tiok mix hc (by kernel_rfl) (ah := (some [[], [], [], [0, 1, 2], [], [], [], [0, 1, 2, 3, 4, 5, 6], [0, 1, 2, 3, 4, 5, 6, 7], [0, 1, 2, 3, 4, 5, 6, 7, 8], [0, 1, 2, 3, 4, 5, 6, 7, 8, 9], [0, 1, 2, 3, 4, 5, 6, 7, 8, 9], [0, 1, 2, 3, 4, 5, 6, 7, 8, 9, 10, 11], [0, 1, 2, 3, 4, 5, 6, 7, 8, 9, 10, 11, 12], [0, 1, 2, 3, 4, 5, 6, 7, 8, 9, 10, 11, 12, 13], [0, 1, 2, 3, 4, 5, 6, 7, 8, 9, 10, 11, 12, 13], [0, 1, 2, 3, 4, 5, 6, 7, 8, 9, 10, 11, 12, 13], [0, 1, 2, 3, 4, 5, 6, 7, 8, 9, 10, 11, 12, 13, 14, 15, 16], [0, 1, 2, 3, 4, 5, 6, 7, 8, 9, 10, 11, 12, 13, 14, 15, 16, 17], [0, 1, 2, 3, 4, 5, 6, 7, 8, 9, 10, 11, 12, 13, 14, 15, 16, 17, 18], [0, 1, 2, 3, 4, 5, 6, 7, 8, 9, 10, 11, 12, 13, 14, 15, 16, 17, 18, 19], [0, 1, 2, 3, 4, 5, 6, 7, 8, 9, 10, 11, 12, 13, 14, 15, 16, 17, 18, 19], [0, 1, 2, 3, 4, 5, 6, 7, 8, 9, 10, 11, 12, 13, 14, 15, 16, 17, 18, 19], [0, 1, 2, 3, 4, 5, 6, 7, 8, 9, 10, 11, 12, 13, 14, 15, 16, 17, 18, 19, 20, 21, 22], [0, 1, 2, 3, 4, 5, 6, 7, 8, 9, 10, 11, 12, 13, 14, 15, 16, 17, 18, 19, 20, 21, 22, 23], [0, 1, 2, 3, 4, 5, 6, 7, 8, 9, 10, 11, 12, 13, 14, 15, 16, 17, 18, 19, 20, 21, 22, 23, 24], [0, 1, 2, 3, 4, 5, 6, 7, 8, 9, 10, 11, 12, 13, 14, 15, 16, 17, 18, 19, 20, 21, 22, 23, 24, 25], [0, 1, 2, 3, 4, 5, 6, 7, 8, 9, 10, 11, 12, 13, 14, 15, 16, 17, 18, 19, 20, 21, 22, 23, 24, 25, 26], [0, 1, 2, 3, 4, 5, 6, 7, 8, 9, 10, 11, 12, 13, 14, 15, 16, 17, 18, 19, 20, 21, 22, 23, 24, 25, 26], [0, 1, 2, 3, 4, 5, 6, 7, 8, 9, 10, 11, 12, 13, 14, 15, 16, 17, 18, 19, 20, 21, 22, 23, 24, 25, 26], [0, 1, 2, 3, 4, 5, 6, 7, 8, 9, 10, 11, 12, 13, 14, 15, 16, 17, 18, 19, 20, 21, 22, 23, 24, 25, 26, 27, 28, 29], [0, 1, 2, 3, 4, 5, 6, 7, 8, 9, 10, 11, 12, 13, 14, 15, 16, 17, 18, 19, 20, 21, 22, 23, 24, 25, 26, 27, 28, 29, 30], [0, 1, 2, 3, 4, 5, 6, 7, 8, 9, 10, 11, 12, 13, 14, 15, 16, 17, 18, 19, 20, 21, 22, 23, 24, 25, 26, 27, 28, 29, 30, 31]])) (rs := [some (.no), some (.no), some (.no), some (.call (.int .i64 r_18_3) [] 1), some (.no), some (.no), some (.no), some (.call (.int .i64 r_18_7) [] 1), some (.no), some (.no), some (.no), some (.no), some (.no), some (.no), none, none, none, none, some (.cond false), some (.no), none, none, none, none, some (.cond false), some (.cond false), some (.no), some (.no), some (.no), some (.no), some (.call (.int .i64 r_18_30) [] 1), some (.no), some (.cond false)]) (kt := [1, 3, 5, 6, 145]) (ko := [1]) (T' := [(1, .ra 1 0), (3, .int .i64 s0.fSize), (5, .int .i64 a_40), (6, .int .i64 b_55), (145, .bool (decide (r_18_30 < 0)))]) (O' := [(1, .box [.int .i64 s0.fSize, .sl (List.map I s0.fPlus), .sl (List.map I s0.fTimes), .sl (List.map AV.bool s0.fBelow)])]) (by kernel_rfl) (And.intro (impl_Systemplus_s _ _ hr_18_3) (And.intro bod_137 (And.intro (Or.inl rfl : ([] : List Nat) = [] ∨ noSh (.int .i64 r_18_3) = true) (And.intro (impl_Systemplus_s _ _ hr_18_7) (And.intro bod_137 (And.intro (Or.inl rfl : ([] : List Nat) = [] ∨ noSh (.int .i64 r_18_7) = true) (And.intro hb_18_0 (And.intro hb_18_0 (And.intro hb_18_0 (And.intro hb_18_0 (And.intro (neT hb_18_1 : (a_40 != b_55) ≠ true) (And.intro (neT hb_18_1 : (a_40 != b_55) ≠ true) (And.intro (neT hb_18_1 : (a_40 != b_55) ≠ true) (And.intro (neT hb_18_1 : (a_40 != b_55) ≠ true) (And.intro hb_18_0 (And.intro hb_18_1 (And.intro hb_18_0 (And.intro (neT (rfl : false = false) : false ≠ true) (And.intro (neT (rfl : false = false) : false ≠ true) (And.intro (neT (rfl : false = false) : false ≠ true) (And.intro (neT (rfl : false = false) : false ≠ true) (And.intro hb_18_0 (And.intro (rfl : false = false) (And.intro hb_18_0 (And.intro (rfl : false = false) (And.intro (rfl : false = false) (And.intro (rfl : false = false) (And.intro (rfl : false = false) (And.intro (impl_Systemjoin_s _ _ hr_18_30) (And.intro bod_140 (And.intro (Or.inl rfl : ([] : List Nat) = [] ∨ noSh (.int .i64 r_18_30) = true) (And.intro (rfl : false = false) (And.intro (rfl : false = false) trivial))))))))))))))))))))))))))))))))) (by kernel_rfl) (by kernel_rfl) ?_
          obtain rfl := Option.some.inj h
          exact Into.mk
    · clear hj_58
      refine seqQ_norm ?_
      rcases itesome h with ⟨hb_59, h⟩ | ⟨hb_59, h⟩
      · refine Wp.condT (b := v_57) (by kernel_rfl) (by kernel_rfl) hb_59 ?_
        refine Wp.seqN (by kernel_rfl) ?_
        refine Wp.reg tiok mix hc (by kernel_rfl) (ah := none) (rs := [some (.no)]) (kt := [2]) (ko := []) (T' := [(2, .bool false)]) (O' := []) (by kernel_rfl) trivial (by kernel_rfl) (by kernel_rfl) ?_
        refine seqQ_norm ?_
        refine Wp.retN (by kernel_rfl) ?_
        refine seqQ_ret ?_
        refine blockQ_ret ?_
        refine seqQ_ret ?_
        refine loopQ_ret ?_
        obtain rfl := Option.some.inj h
        exact RetE.ret (fl := [true]) (by kernel_rfl)
      · refine Wp.condF (b := v_57) (by kernel_rfl) (by kernel_rfl) hb_59 ?_
        refine Wp.skipN (by kernel_rfl) ?_
        refine seqQ_norm ?_
        refine Wp.seqN (by kernel_rfl) ?_
        refine Wp.reg tiok mix hc (by kernel_rfl) (ah := none) (rs := [some (.no)]) (kt := [1, 3, 5, 6, 7]) (ko := [1]) (T' := [(1, .ra 1 0), (3, .int .i64 s0.fSize), (5, .int .i64 a_40), (6, .int .i64 b_55), (7, .int .i64 0)]) (O' := [(1, .box [.int .i64 s0.fSize, .sl (List.map I s0.fPlus), .sl (List.map I s0.fTimes), .sl (List.map AV.bool s0.fBelow)])]) (by kernel_rfl) trivial (by kernel_rfl) (by kernel_rfl) ?_
        refine seqQ_norm ?_
        refine Wp.blockN (i := 6) (by kernel_rfl) ?_
        obtain ⟨fl, hl_65, h⟩ := bsome h
        have hL := impl_IsSystem_l1_s _ _ hl_65 c hc
        refine Wp.loopN (by kernel_rfl) ?_
        rcases fl with ⟨⟩ | r
        · refine WpL.into (e := (.exit 6)) (mkS [(1, .ra 1 0), (3, .int .i64 s0.fSize), (5, .int .i64 a_40), (6, .int .i64 b_55)] [(1, .box [.int .i64 s0.fSize, .sl (List.map I s0.fPlus), .sl (List.map I s0.fTimes), .sl (List.map AV.bool s0.fBelow)])]) hL ?_
          refine blockQ_hit ?_
          refine blockQ_norm ?_
          refine seqQ_norm ?_
          refine Wp.reg tiok mix hc (by kernel_rfl) (ah := none) (rs := [some (.no), some (.no), some (.no)]) (kt := [1, 3, 5, 6]) (ko := [1]) (T' := [(1, .ra 1 0), (3, .int .i64 s0.fSize), (5, .int .i64 a_40), (6, .int .i64 (wr (b_55 + 1)))]) (O' := [(1, .box [.int .i64 s0.fSize, .sl (List.map I s0.fPlus), .sl (List.map I s0.fTimes), .sl (List.map AV.bool s0.fBelow)])]) (by kernel_rfl) trivial (by kernel_rfl) (by kernel_rfl) ?_
          refine loopQ_norm ?_
          exact (impl_IsSystem_l2_ih _ _ h c hc)
        · refine WpL.mono hL ?_
          rintro _ _ ⟨rfl, hfin⟩
          refine blockQ_ret ?_
          refine blockQ_ret ?_
          refine seqQ_ret ?_
          refine loopQ_ret ?_
          obtain rfl := Option.some.inj h
          exact ⟨rfl, hfin⟩
  · refine Wp.condF (b := (decide (b_55 < s0.fSize))) (by kernel_rfl) (by kernel_rfl) hb_56 ?_
    refine Wp.exitN (i := 4) (by kernel_rfl) ?_
    refine seqQ_exit ?_
    refine loopQ_exit ?_
    obtain rfl := Option.some.inj h
    exact Into.view (fun a w hv => SRx.renL [] hv (by kernel_rfl) (by kernel_rfl) (by kernel_rfl))
def impl_IsSystem_F4 (c : Ctx) : (Unit) ⊕ (Bool) → Exit → AState → Prop
  | .inl _ => Into c (.exit 2) (mkS [] [])
  | .inr r => RetE TIx Try.f89 [] (.bool r)
def impl_IsSystem_l3 (p : GSystem × Int) : Option ((Unit) ⊕ (Bool)) :=
  match p with
  | (s0, a_40) =>
    if (decide (a_40 < s0.fSize)) = true then
      (
        (impl_Systemplus (s0, 0, a_40)) >>= fun r_13_2 =>
        if (r_13_2 != a_40) = true then
          some (true)
        else
          (impl_Systemtimes (s0, 1, a_40)) >>= fun r_13_8 =>
          if (r_13_8 != a_40) = true then
            some (true)
          else
            (impl_Systemtimes (s0, a_40, 1)) >>= fun r_13_15 =>
            if (r_13_15 != a_40) = true then
              some (true)
            else
              (impl_Systemtimes (s0, 0, a_40)) >>= fun r_13_22 =>
              if (r_13_22 != 0) = true then
                some (true)
              else
                (impl_Systemtimes (s0, a_40, 0)) >>= fun r_13_28 =>
                if (r_13_28 != 0) = true then
                  some (true)
                else
                  (impl_Systembelow (s0, a_40, a_40)) >>= fun r_13_35 =>
                  some ((!r_13_35))
      ) >>= fun v_42 =>
      if v_42 = true then
        some (.inr false)
      else
        (impl_IsSystem_l2 (s0, a_40, 0)) >>= fun fl => match fl with
        | .inl () =>
          impl_IsSystem_l3 (s0, (wr (a_40 + 1)))
        | .inr r =>
          some (.inr r)
    else
      some (.inl ())
  partial_fixpoint
def M_impl_IsSystem_l3 (p : GSystem × Int) (fl : (Unit) ⊕ (Bool)) : Prop :=
  match p with
  | (s0, a_40) => ∀ c : Ctx, c.nt = 157 → WpL Try.prog c (cl (cl (cr (cl (cr (cr (cr (cr B89)))))))) (impl_IsSystem_F4 c fl) (mkS [(1, .ra 1 0), (3, .int .i64 s0.fSize), (5, .int .i64 a_40)] [(1, .box [.int .i64 s0.fSize, .sl (List.map I s0.fPlus), .sl (List.map I s0.fTimes), .sl (List.map AV.bool s0.fBelow)])])
theorem impl_IsSystem_l3_s : ∀ p r, impl_IsSystem_l3 p = some r → M_impl_IsSystem_l3 p r := by
  refine impl_IsSystem_l3.partial_correctness M_impl_IsSystem_l3 ?_
  rintro impl_IsSystem_l3_f impl_IsSystem_l3_ih ⟨s0, a_40⟩ r h
  intro c hc
  show WpL Try.prog c (cl (cl (cr (cl (cr (cr (cr (cr B89)))))))) (impl_IsSystem_F4 c r) (mkS [(1, .ra 1 0), (3, .int .i64 s0.fSize), (5, .int .i64 a_40)] [(1, .box [.int .i64 s0.fSize, .sl (List.map I s0.fPlus), .sl (List.map I s0.fTimes), .sl (List.map AV.bool s0.fBelow)])])
  refine WpL.step ?_
  refine Wp.seqN (by kernel_rfl) ?_
  refine Wp.seqN (by kernel_rfl) ?_
  refine Wp.reg tiok mix hc (by kernel_rfl) (ah := none) (rs := [some (.no), some (.no), some (.no)]) (kt := [1, 3, 5, 67]) (ko := [1]) (T' := [(1, .ra 1 0), (3, .int .i64 s0.fSize), (5, .int .i64 a_40), (67, .bool (decide (a_40 < s0.fSize)))]) (O' := [(1, .box [.int .i64 s0.fSize, .sl (List.map I s0.fPlus), .sl (List.map I s0.fTimes), .sl (List.map AV.bool s0.fBelow)])]) (by kernel_rfl) trivial (by kernel_rfl) (by kernel_rfl) ?_
  refine seqQ_norm ?_
  rcases itesome h with ⟨hb_41, h⟩ | ⟨hb_41, h⟩
  · refine Wp.condT (b := (decide (a_40 < s0.fSize))) (by kernel_rfl) (by kernel_rfl) hb_41 ?_
    refine Wp.skipN (by kernel_rfl) ?_
    refine seqQ_norm ?_
    refine Wp.seqN (by kernel_rfl) ?_
    refine Wp.blockN (i := 3) (by kernel_rfl) ?_
    refine Wp.seqN (by kernel_rfl) ?_
    refine Wp.seqN (by kernel_rfl) ?_
    obtain ⟨v_42, hj_43, h⟩ := bsome h
    refine Wp.into (x := .normal) (mkS [(1, .ra 1 0), (3, .int .i64 s0.fSize), (5, .int .i64 a_40), (107, .bool v_42)] [(1, .box [.int .i64 s0.fSize, .sl (List.map I s0.fPlus), .sl (List.map I s0.fTimes), .sl (List.map AV.bool s0.fBelow)])]) ?_ ?_
    · replace h := hj_43
      obtain ⟨r_13_2, hr_13_2, h⟩ := bsome h
      rcases itesome h with ⟨hb_13_0, h⟩ | ⟨hb_13_0, h⟩
      · refine Wp.reg tiok mix hc (by kernel_rfl) (ah := none) (rs := [some (.no), some (.no), some (.call (.int .i64 r_13_2) [] 1), some (.no), some (.no), some (.no), none, none, none, none, none, some (.cond true), some (.no), none, none, none, none, none, some (.cond true), some (.no), none, none, none, none, some (.cond true), some (.no), none, none, none, none, some (.cond true), some (.no), none, none, none, none, none, some (.cond true)]) (kt := [1, 3, 5, 107]) (ko := [1]) (T' := [(1, .ra 1 0), (3, .int .i64 s0.fSize), (5, .int .i64 a_40), (107, .bool true)]) (O' := [(1, .box [.int .i64 s0.fSize, .sl (List.map I s0.fPlus), .sl (List.map I s0.fTimes), .sl (List.map AV.bool s0.fBelow)])]) (by kernel_rfl) (And.intro (impl_Systemplus_s _ _ hr_13_2) (And.intro bod_137 (And.intro (Or.inl rfl : ([] : List Nat) = [] ∨ noSh (.int .i64 r_13_2) = true) (And.intro (neF hb_13_0 : (r_13_2 != a_40) ≠ false) (And.intro (neF hb_13_0 : (r_13_2 != a_40) ≠ false) (And.intro (neF hb_13_0 : (r_13_2 != a_40) ≠ false) (And.intro (neF hb_13_0 : (r_13_2 != a_40) ≠ false) (And.intro (neF hb_13_0 : (r_13_2 != a_40) ≠ false) (And.intro hb_13_0 (And.intro (neF (rfl : true = true) : true ≠ false) (And.intro (neF (rfl : true = true) : true ≠ false) (And.intro (neF (rfl : true = true) : true ≠ false) (And.intro (neF (rfl : true = true) : true ≠ false) (And.intro (neF (rfl : true = true) : true ≠ false) (And.intro (rfl : true = true) (And.intro (neF (rfl : true = true) : true ≠ false) (And.intro (neF (rfl : true = true) : true ≠ false) (And.intro (neF (rfl : true = true) : true ≠ false) (And.intro (neF (rfl : true = true) : true ≠ false) (And.intro (rfl : true = true) (And.intro (neF (rfl : true = true) : true ≠ false) (And.intro (neF (rfl : true = true) : true ≠ false) (And.intro (neF (rfl : true = true) : true ≠ false) (And.intro (neF (rfl : true = true) : true ≠ false) (And.intro (rfl : true = true) (And.intro (neF (rfl : true = true) : true ≠ false) (And.intro (neF (rfl : true = true) : true ≠ false) (And.intro (neF (rfl : true = true) : true ≠ false) (And.intro (neF (rfl : true = true) : true ≠ false) (And.intro (neF (rfl : true = true) : true ≠ false) (And.intro (rfl : true = true) trivial))))))))))))))))))))))))))))))) (by kernel_rfl) (by kernel_rfl) ?_
        obtain rfl := Option.some.inj h
        exact Into.mk
      · obtain ⟨r_13_8, hr_13_8, h⟩ := bsome h
        rcases itesome h with ⟨hb_13_1, h⟩ | ⟨hb_13_1, h⟩
        · refine Wp.reg tiok mix hc (by kernel_rfl) (ah := none) (rs := [some (.no), some (.no), some (.call (.int .i64 r_13_2) [] 1), some (.no), some (.no), some (.no), some (.no), some (.no), some (.call (.int .i64 r_13_8) [] 1), some (.no), some (.no), some (.cond false), some (.no), none, none, none, none, none, some (.cond true), some (.no), none, none, none, none, some (.cond true), some (.no), none, none, none, none, some (.cond true), some (.no), none, none, none, none, none, some (.cond true)]) (kt := [1, 3, 5, 107]) (ko := [1]) (T' := [(1, .ra 1 0), (3, .int .i64 s0.fSize), (5, .int .i64 a_40), (107, .bool true)]) (O' := [(1, .box [.int .i64 s0.fSize, .sl (List.map I s0.fPlus), .sl (List.map I s0.fTimes), .sl (List.map AV.bool s0.fBelow)])]) (by kernel_rfl) (And.intro (impl_Systemplus_s _ _ hr_13_2) (And.intro bod_137 (And.intro (Or.inl rfl : ([] : List Nat) = [] ∨ noSh (.int .i64 r_13_2) = true) (And.intro hb_13_0 (And.intro hb_13_0 (And.intro hb_13_0 (And.intro (impl_Systemtimes_s _ _ hr_13_8) (And.intro bod_138 (And.intro (Or.inl rfl : ([] : List Nat) = [] ∨ noSh (.int .i64 r_13_8) = true) (And.intro hb_13_0 (And.intro hb_13_0 (And.intro hb_13_0 (And.intro (neF hb_13_1 : (r_13_8 != a_40) ≠ false) (And.intro (neF hb_13_1 : (r_13_8 != a_40) ≠ false) (And.intro (neF hb_13_1 : (r_13_8 != a_40) ≠ false) (And.intro (neF hb_13_1 : (r_13_8 != a_40) ≠ false) (And.intro (neF hb_13_1 : (r_13_8 != a_40) ≠ false) (And.intro hb_13_1 (And.intro (neF (rfl : true = true) : true ≠ false) (And.intro (neF (rfl : true = true) : true ≠ false) (And.intro (neF (rfl : true = true) : true ≠ false) (And.intro (neF (rfl : true = true) : true ≠ false) (And.intro (rfl : true = true) (And.intro (neF (rfl : true = true) : true ≠ false) (And.intro (neF (rfl : true = true) : true ≠ false) (And.intro (neF (rfl : true = true) : true ≠ false) (And.intro (neF (rfl : true = true) : true ≠ false) (And.intro (rfl : true = true) (And.intro (neF (rfl : true = true) : true ≠ false) (And.intro (neF (rfl : true = true) : true ≠ false) (And.intro (neF (rfl : true = true) : true ≠ false) (And.intro (neF (rfl : true = true) : true ≠ false) (And.intro (neF (rfl : true = true) : true ≠ false) (And.intro (rfl : true = true) trivial)))))))))))))))))))))))))))))))))) (by kernel_rfl) (by kernel_rfl) ?_
          obtain rfl := Option.some.inj h
          exact Into.mk
        · obtain ⟨r_13_15, hr_13_15, h⟩ := bsome h
          rcases itesome h with ⟨hb_13_2, h⟩ | ⟨hb_13_2, h⟩
          · refine Wp.reg tiok mix hc (by kernel_rfl) (ah := none) (rs := [some (.no), some (.no), some (.call (.int .i64 r_13_2) [] 1), some (.no), some (.no), some (.no), some (.no), some (.no), some (.call (.int .i64 r_13_8) [] 1), some (.no), some (.no), some (.cond false), some (.no), some (.no), some (.no), some (.call (.int .i64 r_13_15) [] 1), some (.no), some (.no), some (.cond false), some (.no), none, none, none, none, some (.cond true), some (.no), none, none, none, none, some (.cond true), some (.no), none, none, none, none, none, some (.cond true)]) (kt := [1, 3, 5, 107]) (ko := [1]) (T' := [(1, .ra 1 0), (3, .int .i64 s0.fSize), (5, .int .i64 a_40), (107, .bool true)]) (O' := [(1, .box [.int .i64 s0.fSize, .sl (List.map I s0.fPlus), .sl (List.map I s0.fTimes), .sl (List.map AV.bool s0.fBelow)])]) (by kernel_rfl) (And.intro (impl_Systemplus_s _ _ hr_13_2) (And.intro bod_137 (And.intro (Or.inl rfl : ([] : List Nat) = [] ∨ noSh (.int .i64 r_13_2) = true) (And.intro hb_13_0 (And.intro hb_13_0 (And.intro hb_13_0 (And.intro (impl_Systemtimes_s _ _ hr_13_8) (And.intro bod_138 (And.intro (Or.inl rfl : ([] : List Nat) = [] ∨ noSh (.int .i64 r_13_8) = true) (And.intro hb_13_0 (And.intro hb_13_0 (And.intro hb_13_0 (And.intro hb_13_1 (And.intro hb_13_1 (And.intro hb_13_1 (And.intro (impl_Systemtimes_s _ _ hr_13_15) (And.intro bod_138 (And.intro (Or.inl rfl : ([] : List Nat) = [] ∨ noSh (.int .i64 r_13_15) = true) (And.intro hb_13_1 (And.intro hb_13_1 (And.intro hb_13_1 (And.intro (neF hb_13_2 : (r_13_15 != a_40) ≠ false) (And.intro (neF hb_13_2 : (r_13_15 != a_40) ≠ false) (And.intro (neF hb_13_2 : (r_13_15 != a_40) ≠ false) (And.intro (neF hb_13_2 : (r_13_15 != a_40) ≠ false) (And.intro hb_13_2 (And.intro (neF (rfl : true = true) : true ≠ false) (And.intro (neF (rfl : true = true) : true ≠ false) (And.intro (neF (rfl : true = true) : true ≠ false) (And.intro (neF (rfl : true = true) : true ≠ false) (And.intro (rfl : true = true) (And.intro (neF (rfl : true = true) : true ≠ false) (And.intro (neF (rfl : true = true) : true ≠ false) (And.intro (neF (rfl : true = true) : true ≠ false) (And.intro (neF (rfl : true = true) : true ≠ false) (And.intro (neF (rfl : true = true) : true ≠ false) (And.intro (rfl : true = true) trivial))))))))))))))))))))))))))))))))))))) (by kernel_rfl) (by kernel_rfl) ?_
            obtain rfl := Option.some.inj h
            exact Into.mk
          · obtain ⟨r_13_22, hr_13_22, h⟩ := bsome h
            rcases itesome h with ⟨hb_13_3, h⟩ | ⟨hb_13_3, h⟩
            · refine Wp.reg tiok mix hc (by kernel_rfl) (ah := none) (rs := [some (.no), some (.no), some (.call (.int .i64 r_13_2) [] 1), some (.no), some (.no), some (.no), some (.no), some (.no), some (.call (.int .i64 r_13_8) [] 1), some (.no), some (.no), some (.cond false), some (.no), some (.no), some (.no), some (.call (.int .i64 r_13_15) [] 1), some (.no), some (.no), some (.cond false), some (.no), some (.no), some (.no), some (.call (.int .i64 r_13_22) [] 1), some (.no), some (.cond false), some (.no), none, none, none, none, some (.cond true), some (.no), none, none, none, none, none, some (.cond true)]) (kt := [1, 3, 5, 107]) (ko := [1]) (T' := [(1, .ra 1 0), (3, .int .i64 s0.fSize), (5, .int .i64 a_40), (107, .bool true)]) (O' := [(1, .box [.int .i64 s0.fSize, .sl (List.map I s0.fPlus), .sl (List.map I s0.fTimes), .sl (List.map AV.bool s0.fBelow)])]) (by kernel_rfl) (And.intro (impl_Systemplus_s _ _ hr_13_2) (And.intro bod_137 (And.intro (Or.inl rfl : ([] : List Nat) = [] ∨ noSh (.int .i64 r_13_2) = true) (And.intro hb_13_0 (And.intro hb_13_0 (And.intro hb_13_0 (And.intro (impl_Systemtimes_s _ _ hr_13_8) (And.intro bod_138 (And.intro (Or.inl rfl : ([] : List Nat) = [] ∨ noSh (.int .i64 r_13_8) = true) (And.intro hb_13_0 (And.intro hb_13_0 (And.intro hb_13_0 (And.intro hb_13_1 (And.intro hb_13_1 (And.intro hb_13_1 (And.intro (impl_Systemtimes_s _ _ hr_13_15) (And.intro bod_138 (And.intro (Or.inl rfl : ([] : List Nat) = [] ∨ noSh (.int .i64 r_13_15) = true) (And.intro hb_13_1 (And.intro hb_13_1 (And.intro hb_13_1 (And.intro hb_13_2 (And.intro hb_13_2 (And.intro hb_13_2 (And.intro (impl_Systemtimes_s _ _ hr_13_22) (And.intro bod_138 (And.intro (Or.inl rfl : ([] : List Nat) = [] ∨ noSh (.int .i64 r_13_22) = true) (And.intro hb_13_2 (And.intro hb_13_2 (And.intro (neF hb_13_3 : (r_13_22 != 0) ≠ false) (And.intro (neF hb_13_3 : (r_13_22 != 0) ≠ false) (And.intro (neF hb_13_3 : (r_13_22 != 0) ≠ false) (And.intro (neF hb_13_3 : (r_13_22 != 0) ≠ false) (And.intro hb_13_3 (And.intro (neF (rfl : true = true) : true ≠ false) (And.intro (neF (rfl : true = true) : true ≠ false) (And.intro (neF (rfl : true = true) : true ≠ false) (And.intro (neF (rfl : true = true) : true ≠ false) (And.intro (neF (rfl : true = true) : true ≠ false) (And.intro (rfl : true = true) trivial)))))))))))))))))))))))))))))))))))))))) (by kernel_rfl) (by kernel_rfl) ?_
              obtain rfl := Option.some.inj h
              exact Into.mk
            · obtain ⟨r_13_28, hr_13_28, h⟩ := bsome h
              rcases itesome h with ⟨hb_13_4, h⟩ | ⟨hb_13_4, h⟩
              · refine Wp.reg tiok mix hc (by kernel_rfl) (ah := none) (rs := [some (.no), some (.no), some (.call (.int .i64 r_13_2) [] 1), some (.no), some (.no), some (.no), some (.no), some (.no), some (.call (.int .i64 r_13_8) [] 1), some (.no), some (.no), some (.cond false), some (.no), some (.no), some (.no), some (.call (.int .i64 r_13_15) [] 1), some (.no), some (.no), some (.cond false), some (.no), some (.no), some (.no), some (.call (.int .i64 r_13_22) [] 1), some (.no), some (.cond false), some (.no), some (.no), some (.no), some (.call (.int .i64 r_13_28) [] 1), some (.no), some (.cond false), some (.no), none, none, none, none, none, some (.cond true)]) (kt := [1, 3, 5, 107]) (ko := [1]) (T' := [(1, .ra 1 0), (3, .int .i64 s0.fSize), (5, .int .i64 a_40), (107, .bool true)]) (O' := [(1, .box [.int .i64 s0.fSize, .sl (List.map I s0.fPlus), .sl (List.map I s0.fTimes), .sl (List.map AV.bool s0.fBelow)])]) (by kernel_rfl) (And.intro (impl_Systemplus_s _ _ hr_13_2) (And.intro bod_137 (And.intro (Or.inl rfl : ([] : List Nat) = [] ∨ noSh (.int .i64 r_13_2) = true) (And.intro hb_13_0 (And.intro hb_13_0 (And.intro hb_13_0 (And.intro (impl_Systemtimes_s _ _ hr_13_8) (And.intro bod_138 (And.intro (Or.inl rfl : ([] : List Nat) = [] ∨ noSh (.int .i64 r_13_8) = true) (And.intro hb_13_0 (And.intro hb_13_0 (And.intro hb_13_0 (And.intro hb_13_1 (And.intro hb_13_1 (And.intro hb_13_1 (And.intro (impl_Systemtimes_s _ _ hr_13_15) (And.intro bod_138 (And.intro (Or.inl rfl : ([] : List Nat) = [] ∨ noSh (.int .i64 r_13_15) = true) (And.intro hb_13_1 (And.intro hb_13_1 (And.intro hb_13_1 (And.intro hb_13_2 (And.intro hb_13_2 (And.intro hb_13_2 (And.intro (impl_Systemtimes_s _ _ hr_13_22) (And.intro bod_138 (And.intro (Or.inl rfl : ([] : List Nat) = [] ∨ noSh (.int .i64 r_13_22) = true) (And.intro hb_13_2 (And.intro hb_13_2 (And.intro hb_13_3 (And.intro hb_13_3 (And.intro hb_13_3 (And.intro (impl_Systemtimes_s _ _ hr_13_28) (And.intro bod_138 (And.intro (Or.inl rfl : ([] : List Nat) = [] ∨ noSh (.int .i64 r_13_28) = true) (And.intro hb_13_3 (And.intro hb_13_3 (And.intro (neF hb_13_4 : (r_13_28 != 0) ≠ false) (And.intro (neF hb_13_4 : (r_13_28 != 0) ≠ false) (And.intro (neF hb_13_4 : (r_13_28 != 0) ≠ false) (And.intro (neF hb_13_4 : (r_13_28 != 0) ≠ false) (And.intro (neF hb_13_4 : (r_13_28 != 0) ≠ false) (And.intro hb_13_4 trivial))))))))))))))))))))))))))))))))))))))))))) (by kernel_rfl) (by kernel_rfl) ?_
                obtain rfl := Option.some.inj h
                exact Into.mk
              · obtain ⟨r_13_35, hr_13_35, h⟩ := bsome h
                refine Wp.reg tiok mix hc (by kernel_rfl) (ah := none) (rs := [some (.no), some (.no), some (.call (.int .i64 r_13_2) [] 1), some (.no), some (.no), some (.no), some (.no), some (.no), some (.call (.int .i64 r_13_8) [] 1), some (.no), some (.no), some (.cond false), some (.no), some (.no), some (.no), some (.call (.int .i64 r_13_15) [] 1), some (.no), some (.no), some (.cond false), some (.no), some (.no), some (.no), some (.call (.int .i64 r_13_22) [] 1), some (.no), some (.cond false), some (.no), some (.no), some (.no), some (.call (.int .i64 r_13_28) [] 1), some (.no), some (.cond false), some (.no), some (.no), some (.no), some (.no), some (.call (.bool r_13_35) [] 1), some (.no), some (.cond false)]) (kt := [1, 3, 5, 107]) (ko := [1]) (T' := [(1, .ra 1 0), (3, .int .i64 s0.fSize), (5, .int .i64 a_40), (107, .bool (!r_13_35))]) (O' := [(1, .box [.int .i64 s0.fSize, .sl (List.map I s0.fPlus), .sl (List.map I s0.fTimes), .sl (List.map AV.bool s0.fBelow)])]) (by kernel_rfl) (And.intro (impl_Systemplus_s _ _ hr_13_2) (And.intro bod_137 (And.intro (Or.inl rfl : ([] : List Nat) = [] ∨ noSh (.int .i64 r_13_2) = true) (And.intro hb_13_0 (And.intro hb_13_0 (And.intro hb_13_0 (And.intro (impl_Systemtimes_s _ _ hr_13_8) (And.intro bod_138 (And.intro (Or.inl rfl : ([] : List Nat) = [] ∨ noSh (.int .i64 r_13_8) = true) (And.intro hb_13_0 (And.intro hb_13_0 (And.intro hb_13_0 (And.intro hb_13_1 (And.intro hb_13_1 (And.intro hb_13_1 (And.intro (impl_Systemtimes_s _ _ hr_13_15) (And.intro bod_138 (And.intro (Or.inl rfl : ([] : List Nat) = [] ∨ noSh (.int .i64 r_13_15) = true) (And.intro hb_13_1 (And.intro hb_13_1 (And.intro hb_13_1 (And.intro hb_13_2 (And.intro hb_13_2 (And.intro hb_13_2 (And.intro (impl_Systemtimes_s _ _ hr_13_22) (And.intro bod_138 (And.intro (Or.inl rfl : ([] : List Nat) = [] ∨ noSh (.int .i64 r_13_22) = true) (And.intro hb_13_2 (And.intro hb_13_2 (And.intro hb_13_3 (And.intro hb_13_3 (And.intro hb_13_3 (And.intro (impl_Systemtimes_s _ _ hr_13_28) (And.intro bod_138 (And.intro (Or.inl rfl : ([] : List Nat) = [] ∨ noSh (.int .i64 r_13_28) = true) (And.intro hb_13_3 (And.intro hb_13_3 (And.intro hb_13_4 (And.intro hb_13_4 (And.intro hb_13_4 (And.intro hb_13_4 (And.intro (impl_Systembelow_s _ _ hr_13_35) (And.intro bod_139 (And.intro (Or.inl rfl : ([] : List Nat) = [] ∨ noSh (.bool r_13_35) = true) (And.intro hb_13_4 (And.intro hb_13_4 trivial)))))))))))))))))))))))))))))))))))))))))))))) (by kernel_rfl) (by kernel_rfl) ?_
                obtain rfl := Option.some.inj h
                exact Into.mk
    · clear hj_43
      refine seqQ_norm ?_
      rcases itesome h with ⟨hb_44, h⟩ | ⟨hb_44, h⟩
      · refine Wp.condT (b := v_42) (by kernel_rfl) (by kernel_rfl) hb_44 ?_
        refine Wp.seqN (by kernel_rfl) ?_
        refine Wp.reg tiok mix hc (by kernel_rfl) (ah := none) (rs := [some (.no)]) (kt := [2]) (ko := []) (T' := [(2, .bool false)]) (O' := []) (by kernel_rfl) trivial (by kernel_rfl) (by kernel_rfl) ?_
        refine seqQ_norm ?_
        refine Wp.retN (by kernel_rfl) ?_
        refine seqQ_ret ?_
        refine blockQ_ret ?_
        refine seqQ_ret ?_
        refine loopQ_ret ?_
        obtain rfl := Option.some.inj h
        exact RetE.ret (fl := [true]) (by kernel_rfl)
      · refine Wp.condF (b := v_42) (by kernel_rfl) (by kernel_rfl) hb_44 ?_
        refine Wp.skipN (by kernel_rfl) ?_
        refine seqQ_norm ?_
        refine Wp.seqN (by kernel_rfl) ?_
        refine Wp.reg tiok mix hc (by kernel_rfl) (ah := none) (rs := [some (.no)]) (kt := [1, 3, 5, 6]) (ko := [1]) (T' := [(1, .ra 1 0), (3, .int .i64 s0.fSize), (5, .int .i64 a_40), (6, .int .i64 0)]) (O' := [(1, .box [.int .i64 s0.fSize, .sl (List.map I s0.fPlus), .sl (List.map I s0.fTimes), .sl (List.map AV.bool s0.fBelow)])]) (by kernel_rfl) trivial (by kernel_rfl) (by kernel_rfl) ?_
        refine seqQ_norm ?_
        refine Wp.blockN (i := 4) (by kernel_rfl) ?_
        obtain ⟨fl, hl_66, h⟩ := bsome h
        have hL := impl_IsSystem_l2_s _ _ hl_66 c hc
        refine Wp.loopN (by kernel_rfl) ?_
        rcases fl with ⟨⟩ | r
        · refine WpL.into (e := (.exit 4)) (mkS [(1, .ra 1 0), (3, .int .i64 s0.fSize), (5, .int .i64 a_40)] [(1, .box [.int .i64 s0.fSize, .sl (List.map I s0.fPlus), .sl (List.map I s0.fTimes), .sl (List.map AV.bool s0.fBelow)])]) hL ?_
          refine blockQ_hit ?_
          refine blockQ_norm ?_
          refine seqQ_norm ?_
          refine Wp.reg tiok mix hc (by kernel_rfl) (ah := none) (rs := [some (.no), some (.no), some (.no)]) (kt := [1, 3, 5]) (ko := [1]) (T' := [(1, .ra 1 0), (3, .int .i64 s0.fSize), (5, .int .i64 (wr (a_40 + 1)))]) (O' := [(1, .box [.int .i64 s0.fSize, .sl (List.map I s0.fPlus), .sl (List.map I s0.fTimes), .sl (List.map AV.bool s0.fBelow)])]) (by kernel_rfl) trivial (by kernel_rfl) (by kernel_rfl) ?_
          refine loopQ_norm ?_
          exact (impl_IsSystem_l3_ih _ _ h c hc)
        · refine WpL.mono hL ?_
          rintro _ _ ⟨rfl, hfin⟩
          refine blockQ_ret ?_
          refine blockQ_ret ?_
          refine seqQ_ret ?_
          refine loopQ_ret ?_
          obtain rfl := Option.some.inj h
          exact ⟨rfl, hfin⟩
  · refine Wp.condF (b := (decide (a_40 < s0.fSize))) (by kernel_rfl) (by kernel_rfl) hb_41 ?_
    refine Wp.exitN (i := 2) (by kernel_rfl) ?_
    refine seqQ_exit ?_
    refine loopQ_exit ?_
    obtain rfl := Option.some.inj h
    exact Into.view (fun a w hv => SRx.renL [] hv (by kernel_rfl) (by kernel_rfl) (by kernel_rfl))
def impl_IsSystem (s0 : GSystem) : Option (Bool) :=
    (
      (impl_within (s0.fSize, 2, 16)) >>= fun r_2_1 =>
      if r_2_1 = true then
        if ((s0.fPlus.length : Int) != (wr (s0.fSize * s0.fSize))) = true then
          some (true)
        else
          if ((s0.fTimes.length : Int) != (wr (s0.fSize * s0.fSize))) = true then
            some (true)
          else
            some (((s0.fBelow.length : Int) != (wr (s0.fSize * s0.fSize))))
      else
        some (true)
    ) >>= fun v_1 =>
    if v_1 = true then
      some false
    else
      (impl_IsSystem_l0 (s0, 0)) >>= fun fl => match fl with
      | .inl () =>
        (impl_IsSystem_l3 (s0, 0)) >>= fun fl => match fl with
        | .inl () =>
          some true
        | .inr r =>
          some r
      | .inr r =>
        some r
def M_impl_IsSystem (s0 : GSystem) (r : Bool) : Prop :=
  FnSound Try.prog 89 [.agg [.int .i64 s0.fSize, .sl (List.map I s0.fPlus), .sl (List.map I s0.fTimes), .sl (List.map AV.bool s0.fBelow)]] (.bool r) []
theorem impl_IsSystem_s : ∀ p r, impl_IsSystem p = some r → M_impl_IsSystem p r := by
  rintro s0 r h
  unfold impl_IsSystem at h
  show FnSound Try.prog 89 [.agg [.int .i64 s0.fSize, .sl (List.map I s0.fPlus), .sl (List.map I s0.fTimes), .sl (List.map AV.bool s0.fBelow)]] (.bool r) []
  refine FnSound.body0 tiok (fn := Try.f89) (code := B89) (by kernel_rfl) (by kernel_rfl) (by kernel_rfl) (by kernel_rfl) (nt := 157) (by kernel_rfl) (by kernel_rfl) (T := [(0, .agg [.int .i64 s0.fSize, .sl (List.map I s0.fPlus), .sl (List.map I s0.fTimes), .sl (List.map AV.bool s0.fBelow)])]) (O := []) (by kernel_rfl) (by kernel_rfl) (fun c hc => ?_)
  refine Wp.seqN (by kernel_rfl) ?_
  refine Wp.reg tiok mix hc (by kernel_rfl) (ah := none) (rs := [some (.new 1), some (.no)]) (kt := [1]) (ko := [1]) (T' := [(1, .ra 1 0)]) (O' := [(1, .box [.int .i64 s0.fSize, .sl (List.map I s0.fPlus), .sl (List.map I s0.fTimes), .sl (List.map AV.bool s0.fBelow)])]) (by kernel_rfl) trivial (by kernel_rfl) (by kernel_rfl) ?_
  refine seqQ_norm ?_
  refine Wp.seqN (by kernel_rfl) ?_
  refine Wp.reg tiok mix hc (by kernel_rfl) (ah := none) (rs := [some (.no), some (.no), some (.no)]) (kt := [1, 3]) (ko := [1]) (T' := [(1, .ra 1 0), (3, .int .i64 s0.fSize)]) (O' := [(1, .box [.int .i64 s0.fSize, .sl (List.map I s0.fPlus), .sl (List.map I s0.fTimes), .sl (List.map AV.bool s0.fBelow)])]) (by kernel_rfl) trivial (by kernel_rfl) (by kernel_rfl) ?_
  refine seqQ_norm ?_
  refine Wp.seqN (by kernel_rfl) ?_
  refine Wp.seqN (by kernel_rfl) ?_
  obtain ⟨v_1, hj_2, h⟩ := bsome h
  refine Wp.into (x := .normal) (mkS [(1, .ra 1 0), (3, .int .i64 s0.fSize), (39, .bool v_1)] [(1, .box [.int .i64 s0.fSize, .sl (List.map I s0.fPlus), .sl (List.map I s0.fTimes), .sl (List.map AV.bool s0.fBelow)])]) ?_ ?_
  · replace h := hj_2
    obtain ⟨r_2_1, hr_2_1, h⟩ := bsome h
    rcases itesome h with ⟨hb_2_0, h⟩ | ⟨hb_2_0, h⟩
    · rcases itesome h with ⟨hb_2_1, h⟩ | ⟨hb_2_1, h⟩
      · refine Wp.reg tiok mix hc (by kernel_rfl) (ah := none) (rs := [some (.no), some (.call (.bool r_2_1) [] 1), some (.no), some (.no), some (.no), some (.no), some (.eqv (.no) ⟨[(16, .int .i64 (s0.fPlus.length : Int))], [], []⟩), some (.no), some (.no), some (.no), some (.no), some (.cond false), some (.no), none, none, none, none, none, none, none, some (.cond true), some (.no), none, none, none, none, none, none, none, some (.cond true)]) (kt := [1, 3, 39]) (ko := [1]) (T' := [(1, .ra 1 0), (3, .int .i64 s0.fSize), (39, .bool true)]) (O' := [(1, .box [.int .i64 s0.fSize, .sl (List.map I s0.fPlus), .sl (List.map I s0.fTimes), .sl (List.map AV.bool s0.fBelow)])]) (by kernel_rfl) (And.intro (impl_within_s _ _ hr_2_1) (And.intro bod_64 (And.intro (Or.inl rfl : ([] : List Nat) = [] ∨ noSh (.bool r_2_1) = true) (And.intro (nF hb_2_0) (And.intro (nF hb_2_0) (And.intro (nF hb_2_0) (And.intro (lenT (d := 16) I s0.fPlus) (And.intro (nF hb_2_0) (And.intro (nF hb_2_0) (And.intro (nF hb_2_0) (And.intro (nF hb_2_0) (And.intro (nF hb_2_0) (And.intro (neF hb_2_1 : ((s0.fPlus.length : Int) != (wr (s0.fSize * s0.fSize))) ≠ false) (And.intro (neF hb_2_1 : ((s0.fPlus.length : Int) != (wr (s0.fSize * s0.fSize))) ≠ false) (And.intro (neF hb_2_1 : ((s0.fPlus.length : Int) != (wr (s0.fSize * s0.fSize))) ≠ false) (And.intro (neF hb_2_1 : ((s0.fPlus.length : Int) != (wr (s0.fSize * s0.fSize))) ≠ false) (And.intro (neF hb_2_1 : ((s0.fPlus.length : Int) != (wr (s0.fSize * s0.fSize))) ≠ false) (And.intro (neF hb_2_1 : ((s0.fPlus.length : Int) != (wr (s0.fSize * s0.fSize))) ≠ false) (And.intro (neF hb_2_1 : ((s0.fPlus.length : Int) != (wr (s0.fSize * s0.fSize))) ≠ false) (And.intro hb_2_1 (And.intro (neF (rfl : true = true) : true ≠ false) (And.intro (neF (rfl : true = true) : true ≠ false) (And.intro (neF (rfl : true = true) : true ≠ false) (And.intro (neF (rfl : true = true) : true ≠ false) (And.intro (neF (rfl : true = true) : true ≠ false) (And.intro (neF (rfl : true = true) : true ≠ false) (And.intro (neF (rfl : true = true) : true ≠ false) (And.intro (rfl : true = true) trivial)))))))))))))))))))))))))))) (by kernel_rfl) (by kernel_rfl) ?_
        obtain rfl := Option.some.inj h
        exact Into.mk
      · rcases itesome h with ⟨hb_2_2, h⟩ | ⟨hb_2_2, h⟩
        · refine Wp.reg tiok mix hc (by kernel_rfl) (ah := none) (rs := [some (.no), some (.call (.bool r_2_1) [] 1), some (.no), some (.no), some (.no), some (.no), some (.eqv (.no) ⟨[(16, .int .i64 (s0.fPlus.length : Int))], [], []⟩), some (.no), some (.no), some (.no), some (.no), some (.cond false), some (.no), some (.no), some (.no), some (.eqv (.no) ⟨[(25, .int .i64 (s0.fTimes.length : Int))], [], []⟩), some (.no), some (.no), some (.no), some (.no), some (.cond false), some (.no), none, none, none, none, none, none, none, some (.cond true)]) (kt := [1, 3, 39]) (ko := [1]) (T' := [(1, .ra 1 0), (3, .int .i64 s0.fSize), (39, .bool true)]) (O' := [(1, .box [.int .i64 s0.fSize, .sl (List.map I s0.fPlus), .sl (List.map I s0.fTimes), .sl (List.map AV.bool s0.fBelow)])]) (by kernel_rfl) (And.intro (impl_within_s _ _ hr_2_1) (And.intro bod_64 (And.intro (Or.inl rfl : ([] : List Nat) = [] ∨ noSh (.bool r_2_1) = true) (And.intro (nF hb_2_0) (And.intro (nF hb_2_0) (And.intro (nF hb_2_0) (And.intro (lenT (d := 16) I s0.fPlus) (And.intro (nF hb_2_0) (And.intro (nF hb_2_0) (And.intro (nF hb_2_0) (And.intro (nF hb_2_0) (And.intro (nF hb_2_0) (And.intro hb_2_1 (And.intro hb_2_1 (And.intro hb_2_1 (And.intro (lenT (d := 25) I s0.fTimes) (And.intro hb_2_1 (And.intro hb_2_1 (And.intro hb_2_1 (And.intro hb_2_1 (And.intro hb_2_1 (And.intro (neF hb_2_2 : ((s0.fTimes.length : Int) != (wr (s0.fSize * s0.fSize))) ≠ false) (And.intro (neF hb_2_2 : ((s0.fTimes.length : Int) != (wr (s0.fSize * s0.fSize))) ≠ false) (And.intro (neF hb_2_2 : ((s0.fTimes.length : Int) != (wr (s0.fSize * s0.fSize))) ≠ false) (And.intro (neF hb_2_2 : ((s0.fTimes.length : Int) != (wr (s0.fSize * s0.fSize))) ≠ false) (And.intro (neF hb_2_2 : ((s0.fTimes.length : Int) != (wr (s0.fSize * s0.fSize))) ≠ false) (And.intro (neF hb_2_2 : ((s0.fTimes.length : Int) != (wr (s0.fSize * s0.fSize))) ≠ false) (And.intro (neF hb_2_2 : ((s0.fTimes.length : Int) != (wr (s0.fSize * s0.fSize))) ≠ false) (And.intro hb_2_2 trivial))))))))))))))))))))))))))))) (by kernel_rfl) (by kernel_rfl) ?_
          obtain rfl := Option.some.inj h
          exact Into.mk
        · refine Wp.reg tiok mix hc (by kernel_rfl) (ah := none) (rs := [some (.no), some (.call (.bool r_2_1) [] 1), some (.no), some (.no), some (.no), some (.no), some (.eqv (.no) ⟨[(16, .int .i64 (s0.fPlus.length : Int))], [], []⟩), some (.no), some (.no), some (.no), some (.no), some (.cond false), some (.no), some (.no), some (.no), some (.eqv (.no) ⟨[(25, .int .i64 (s0.fTimes.length : Int))], [], []⟩), some (.no), some (.no), some (.no), some (.no), some (.cond false), some (.no), some (.no), some (.no), some (.eqv (.no) ⟨[(34, .int .i64 (s0.fBelow.length : Int))], [], []⟩), some (.no), some (.no), some (.no), some (.no), some (.cond false)]) (kt := [1, 3, 39]) (ko := [1]) (T' := [(1, .ra 1 0), (3, .int .i64 s0.fSize), (39, .bool ((s0.fBelow.length : Int) != (wr (s0.fSize * s0.fSize))))]) (O' := [(1, .box [.int .i64 s0.fSize, .sl (List.map I s0.fPlus), .sl (List.map I s0.fTimes), .sl (List.map AV.bool s0.fBelow)])]) (by kernel_rfl) (And.intro (impl_within_s _ _ hr_2_1) (And.intro bod_64 (And.intro (Or.inl rfl : ([] : List Nat) = [] ∨ noSh (.bool r_2_1) = true) (And.intro (nF hb_2_0) (And.intro (nF hb_2_0) (And.intro (nF hb_2_0) (And.intro (lenT (d := 16) I s0.fPlus) (And.intro (nF hb_2_0) (And.intro (nF hb_2_0) (And.intro (nF hb_2_0) (And.intro (nF hb_2_0) (And.intro (nF hb_2_0) (And.intro hb_2_1 (And.intro hb_2_1 (And.intro hb_2_1 (And.intro (lenT (d := 25) I s0.fTimes) (And.intro hb_2_1 (And.intro hb_2_1 (And.intro hb_2_1 (And.intro hb_2_1 (And.intro hb_2_1 (And.intro hb_2_2 (And.intro hb_2_2 (And.intro hb_2_2 (And.intro (lenT (d := 34) AV.bool s0.fBelow) (And.intro hb_2_2 (And.intro hb_2_2 (And.intro hb_2_2 (And.intro hb_2_2 (And.intro hb_2_2 trivial)))))))))))))))))))))))))))))) (by kernel_rfl) (by kernel_rfl) ?_
          obtain rfl := Option.some.inj h
          exact Into.mk
    · refine Wp.reg tiok mix hc (by kernel_rfl) (ah := none) (rs := [some (.no), some (.call (.bool r_2_1) [] 1), some (.no), some (.no), none, none, none, none, none, none, none, some (.cond true), some (.no), none, none, none, none, none, none, none, some (.cond true), some (.no), none, none, none, none, none, none, none, some (.cond true)]) (kt := [1, 3, 39]) (ko := [1]) (T' := [(1, .ra 1 0), (3, .int .i64 s0.fSize), (39, .bool true)]) (O' := [(1, .box [.int .i64 s0.fSize, .sl (List.map I s0.fPlus), .sl (List.map I s0.fTimes), .sl (List.map AV.bool s0.fBelow)])]) (by kernel_rfl) (And.intro (impl_within_s _ _ hr_2_1) (And.intro bod_64 (And.intro (Or.inl rfl : ([] : List Nat) = [] ∨ noSh (.bool r_2_1) = true) (And.intro (neF (nT hb_2_0) : (!r_2_1) ≠ false) (And.intro (neF (nT hb_2_0) : (!r_2_1) ≠ false) (And.intro (neF (nT hb_2_0) : (!r_2_1) ≠ false) (And.intro (neF (nT hb_2_0) : (!r_2_1) ≠ false) (And.intro (neF (nT hb_2_0) : (!r_2_1) ≠ false) (And.intro (neF (nT hb_2_0) : (!r_2_1) ≠ false) (And.intro (neF (nT hb_2_0) : (!r_2_1) ≠ false) (And.intro (nT hb_2_0) (And.intro (neF (rfl : true = true) : true ≠ false) (And.intro (neF (rfl : true = true) : true ≠ false) (And.intro (neF (rfl : true = true) : true ≠ false) (And.intro (neF (rfl : true = true) : true ≠ false) (And.intro (neF (rfl : true = true) : true ≠ false) (And.intro (neF (rfl : true = true) : true ≠ false) (And.intro (neF (rfl : true = true) : true ≠ false) (And.intro (rfl : true = true) (And.intro (neF (rfl : true = true) : true ≠ false) (And.intro (neF (rfl : true = true) : true ≠ false) (And.intro (neF (rfl : true = true) : true ≠ false) (And.intro (neF (rfl : true = true) : true ≠ false) (And.intro (neF (rfl : true = true) : true ≠ false) (And.intro (neF (rfl : true = true) : true ≠ false) (And.intro (neF (rfl : true = true) : true ≠ false) (And.intro (rfl : true = true) trivial))))))))))))))))))))))))))) (by kernel_rfl) (by kernel_rfl) ?_
      obtain rfl := Option.some.inj h
      exact Into.mk
  · clear hj_2
    refine seqQ_norm ?_
    rcases itesome h with ⟨hb_3, h⟩ | ⟨hb_3, h⟩
    · refine Wp.condT (b := v_1) (by kernel_rfl) (by kernel_rfl) hb_3 ?_
      refine Wp.seqN (by kernel_rfl) ?_
      refine Wp.reg tiok mix hc (by kernel_rfl) (ah := none) (rs := [some (.no)]) (kt := [2]) (ko := []) (T' := [(2, .bool false)]) (O' := []) (by kernel_rfl) trivial (by kernel_rfl) (by kernel_rfl) ?_
      refine seqQ_norm ?_
      refine Wp.retN (by kernel_rfl) ?_
      refine seqQ_ret ?_
      obtain rfl := Option.some.inj h
      exact RetQ.ret (fl := [true]) (by kernel_rfl)
    · refine Wp.condF (b := v_1) (by kernel_rfl) (by kernel_rfl) hb_3 ?_
      refine Wp.skipN (by kernel_rfl) ?_
      refine seqQ_norm ?_
      refine Wp.seqN (by kernel_rfl) ?_
      refine Wp.seqN (by kernel_rfl) ?_
      refine Wp.reg tiok mix hc (by kernel_rfl) (ah := none) (rs := [some (.no), some (.no), some (.eqv (.no) ⟨[(42, .int .i64 (s0.fPlus.length : Int))], [], []⟩), some (.no)]) (kt := [1, 3, 42, 43]) (ko := [1]) (T' := [(1, .ra 1 0), (3, .int .i64 s0.fSize), (42, .int .i64 (s0.fPlus.length : Int)), (43, .int .i64 0)]) (O' := [(1, .box [.int .i64 s0.fSize, .sl (List.map I s0.fPlus), .sl (List.map I s0.fTimes), .sl (List.map AV.bool s0.fBelow)])]) (by kernel_rfl) (And.intro (lenT (d := 42) I s0.fPlus) trivial) (by kernel_rfl) (by kernel_rfl) ?_
      refine seqQ_norm ?_
      refine Wp.blockN (i := 0) (by kernel_rfl) ?_
      obtain ⟨fl, hl_13, h⟩ := bsome h
      have hL := impl_IsSystem_l0_s _ _ hl_13 c hc
      refine Wp.loopN (by kernel_rfl) ?_
      rcases fl with ⟨⟩ | r
      · refine WpL.into (e := (.exit 0)) (mkS [(1, .ra 1 0), (3, .int .i64 s0.fSize)] [(1, .box [.int .i64 s0.fSize, .sl (List.map I s0.fPlus), .sl (List.map I s0.fTimes), .sl (List.map AV.bool s0.fBelow)])]) hL ?_
        refine blockQ_hit ?_
        refine seqQ_norm ?_
        refine Wp.seqN (by kernel_rfl) ?_
        refine Wp.seqN (by kernel_rfl) ?_
        refine Wp.reg tiok mix hc (by kernel_rfl) (ah := none) (rs := [some (.no)]) (kt := [1, 3, 5]) (ko := [1]) (T' := [(1, .ra 1 0), (3, .int .i64 s0.fSize), (5, .int .i64 0)]) (O' := [(1, .box [.int .i64 s0.fSize, .sl (List.map I s0.fPlus), .sl (List.map I s0.fTimes), .sl (List.map AV.bool s0.fBelow)])]) (by kernel_rfl) trivial (by kernel_rfl) (by kernel_rfl) ?_
        refine seqQ_norm ?_
        refine Wp.blockN (i := 2) (by kernel_rfl) ?_
        obtain ⟨fl, hl_67, h⟩ := bsome h
        have hL := impl_IsSystem_l3_s _ _ hl_67 c hc
        refine Wp.loopN (by kernel_rfl) ?_
        rcases fl with ⟨⟩ | r
        · refine WpL.into (e := (.exit 2)) (mkS [] []) hL ?_
          refine blockQ_hit ?_
          refine seqQ_norm ?_
          refine Wp.seqN (by kernel_rfl) ?_
          refine Wp.reg tiok mix hc (by kernel_rfl) (ah := none) (rs := [some (.no)]) (kt := [2]) (ko := []) (T' := [(2, .bool true)]) (O' := []) (by kernel_rfl) trivial (by kernel_rfl) (by kernel_rfl) ?_
          refine seqQ_norm ?_
          refine Wp.retN (by kernel_rfl) ?_
          obtain rfl := Option.some.inj h
          exact RetQ.ret (fl := [true]) (by kernel_rfl)
        · refine WpL.mono hL ?_
          rintro _ _ ⟨rfl, hfin⟩
          refine blockQ_ret ?_
          refine seqQ_ret ?_
          obtain rfl := Option.some.inj h
          exact ⟨.inl rfl, hfin⟩
      · refine WpL.mono hL ?_
        rintro _ _ ⟨rfl, hfin⟩
        refine blockQ_ret ?_
        refine seqQ_ret ?_
        obtain rfl := Option.some.inj h
        exact ⟨.inl rfl, hfin⟩
def impl_IsData (p : GSystem × (List Int)) : Option (Bool) :=
  match p with
  | (s0, ty1) =>
    (
      (impl_isDataOf (s0, ty1)) >>= fun r_1_2 =>
      if r_1_2 = true then
        (impl_IsSystem s0) >>= fun r_1_5 =>
        some (r_1_5)
      else
        some (false)
    ) >>= fun v_1 =>
    some v_1
def M_impl_IsData (p : GSystem × (List Int)) (r : Bool) : Prop :=
  match p with
  | (s0, ty1) => FnSound Try.prog 75 [.agg [.int .i64 s0.fSize, .sl (List.map I s0.fPlus), .sl (List.map I s0.fTimes), .sl (List.map AV.bool s0.fBelow)], .sl (List.map I ty1)] (.bool r) []
theorem impl_IsData_s : ∀ p r, impl_IsData p = some r → M_impl_IsData p r := by
  rintro ⟨s0, ty1⟩ r h
  unfold impl_IsData at h
  show FnSound Try.prog 75 [.agg [.int .i64 s0.fSize, .sl (List.map I s0.fPlus), .sl (List.map I s0.fTimes), .sl (List.map AV.bool s0.fBelow)], .sl (List.map I ty1)] (.bool r) []
  refine FnSound.body0 tiok (fn := Try.f75) (code := B75) (by kernel_rfl) (by kernel_rfl) (by kernel_rfl) (by kernel_rfl) (nt := 12) (by kernel_rfl) (by kernel_rfl) (T := [(0, .agg [.int .i64 s0.fSize, .sl (List.map I s0.fPlus), .sl (List.map I s0.fTimes), .sl (List.map AV.bool s0.fBelow)]), (1, .sl (List.map I ty1))]) (O := []) (by kernel_rfl) (by kernel_rfl) (fun c hc => ?_)
  refine Wp.seqN (by kernel_rfl) ?_
  refine Wp.reg tiok mix hc (by kernel_rfl) (ah := none) (rs := [some (.new 1), some (.no)]) (kt := [1, 2]) (ko := [1]) (T' := [(1, .sl (List.map I ty1)), (2, .ra 1 0)]) (O' := [(1, .box [.int .i64 s0.fSize, .sl (List.map I s0.fPlus), .sl (List.map I s0.fTimes), .sl (List.map AV.bool s0.fBelow)])]) (by kernel_rfl) trivial (by kernel_rfl) (by kernel_rfl) ?_
  refine seqQ_norm ?_
  refine Wp.seqN (by kernel_rfl) ?_
  obtain ⟨v_1, hj_2, h⟩ := bsome h
  refine Wp.into (x := .normal) (mkS [(4, .bool v_1)] []) ?_ ?_
  · replace h := hj_2
    obtain ⟨r_1_2, hr_1_2, h⟩ := bsome h
    rcases itesome h with ⟨hb_1_0, h⟩ | ⟨hb_1_0, h⟩
    · obtain ⟨r_1_5, hr_1_5, h⟩ := bsome h
      refine Wp.reg tiok mix hc (by kernel_rfl) (ah := none) (rs := [some (.no), some (.no), some (.call (.bool r_1_2) [] 1), some (.no), some (.no), some (.call (.bool r_1_5) [] 1), some (.cond true), some (.no)]) (kt := [4]) (ko := []) (T' := [(4, .bool r_1_5)]) (O' := []) (by kernel_rfl) (And.intro (impl_isDataOf_s _ _ hr_1_2) (And.intro bod_123 (And.intro (Or.inl rfl : ([] : List Nat) = [] ∨ noSh (.bool r_1_2) = true) (And.intro hb_1_0 (And.intro hb_1_0 (And.intro (impl_IsSystem_s _ _ hr_1_5) (And.intro bod_89 (And.intro (Or.inl rfl : ([] : List Nat) = [] ∨ noSh (.bool r_1_5) = true) (And.intro hb_1_0 trivial))))))))) (by kernel_rfl) (by kernel_rfl) ?_
      obtain rfl := Option.some.inj h
      exact Into.mk
    · refine Wp.reg tiok mix hc (by kernel_rfl) (ah := none) (rs := [some (.no), some (.no), some (.call (.bool r_1_2) [] 1), some (.no), none, none, some (.cond false), some (.no)]) (kt := [4]) (ko := []) (T' := [(4, .bool false)]) (O' := []) (by kernel_rfl) (And.intro (impl_isDataOf_s _ _ hr_1_2) (And.intro bod_123 (And.intro (Or.inl rfl : ([] : List Nat) = [] ∨ noSh (.bool r_1_2) = true) (And.intro (neT hb_1_0 : r_1_2 ≠ true) (And.intro (neT hb_1_0 : r_1_2 ≠ true) (And.intro hb_1_0 trivial)))))) (by kernel_rfl) (by kernel_rfl) ?_
      obtain rfl := Option.some.inj h
      exact Into.mk
  · clear hj_2
    refine seqQ_norm ?_
    refine Wp.retN (by kernel_rfl) ?_
    obtain rfl := Option.some.inj h
    exact RetQ.ret (fl := [true]) (by kernel_rfl)
def impl_parts_F1 (c : Ctx) : (List (List Int)) → Exit → AState → Prop
  | out_6 => Into c (.exit 0) (mkS [(3, .rs 3)] [(3, .arr (List.map LI_s out_6))])
def impl_parts_l0 (p : (List Int) × (List (List Int)) × Int) : Option ((List (List Int))) :=
  match p with
  | (ty0, out_4, at_2) =>
    if (decide (at_2 < (ty0.length : Int))) = true then
      (impl_typeEnd (ty0, at_2)) >>= fun r_4_2 =>
      (cut ty0 (some at_2) (some r_4_2) (some r_4_2)) >>= fun c_5_5 =>
      (fits (out_4.length + [c_5_5].length) 24) >>= fun _ =>
      impl_parts_l0 (ty0, (out_4 ++ [c_5_5]), r_4_2)
    else
      some (out_4)
  partial_fixpoint
def M_impl_parts_l0 (p : (List Int) × (List (List Int)) × Int) (fl : (List (List Int))) : Prop :=
  match p with
  | (ty0, out_4, at_2) => ∀ c : Ctx, c.nt = 23 → WpL Try.prog c (cl (cl (cr (cl (cr (cr B104)))))) (impl_parts_F1 c fl) (mkS [(0, .sl (List.map I ty0)), (3, .rs 3), (4, .int .i64 at_2)] [(3, .arr (List.map LI_s out_4))])
theorem impl_parts_l0_s : ∀ p r, impl_parts_l0 p = some r → M_impl_parts_l0 p r := by
  refine impl_parts_l0.partial_correctness M_impl_parts_l0 ?_
  rintro impl_parts_l0_f impl_parts_l0_ih ⟨ty0, out_4, at_2⟩ r h
  intro c hc
  show WpL Try.prog c (cl (cl (cr (cl (cr (cr B104)))))) (impl_parts_F1 c r) (mkS [(0, .sl (List.map I ty0)), (3, .rs 3), (4, .int .i64 at_2)] [(3, .arr (List.map LI_s out_4))])
  refine WpL.step ?_
  refine Wp.seqN (by kernel_rfl) ?_
  refine Wp.seqN (by kernel_rfl) ?_
  refine Wp.reg tiok mix hc (by kernel_rfl) (ah := none) (rs := [some (.no), some (.no), some (.eqv (.no) ⟨[(8, .int .i64 (ty0.length : Int))], [], []⟩), some (.no)]) (kt := [0, 3, 4, 9]) (ko := [3]) (T' := [(0, .sl (List.map I ty0)), (3, .rs 3), (4, .int .i64 at_2), (9, .bool (decide (at_2 < (ty0.length : Int))))]) (O' := [(3, .arr (List.map LI_s out_4))]) (by kernel_rfl) (And.intro (lenT (d := 8) I ty0) trivial) (by kernel_rfl) (by kernel_rfl) ?_
  refine seqQ_norm ?_
  rcases itesome h with ⟨hb_5, h⟩ | ⟨hb_5, h⟩
  · refine Wp.condT (b := (decide (at_2 < (ty0.length : Int)))) (by kernel_rfl) (by kernel_rfl) hb_5 ?_
    refine Wp.skipN (by kernel_rfl) ?_
    refine seqQ_norm ?_
    refine Wp.blockN (i := 1) (by kernel_rfl) ?_
    refine Wp.seqN (by kernel_rfl) ?_
    obtain ⟨r_4_2, hr_4_2, h⟩ := bsome h
    refine Wp.reg tiok mix hc (by kernel_rfl) (ah := none) (rs := [some (.no), some (.no), some (.call (.int .i64 r_4_2) [] 1), some (.no)]) (kt := [0, 3, 4, 5]) (ko := [3]) (T' := [(0, .sl (List.map I ty0)), (3, .rs 3), (4, .int .i64 at_2), (5, .int .i64 r_4_2)]) (O' := [(3, .arr (List.map LI_s out_4))]) (by kernel_rfl) (And.intro (impl_typeEnd_s _ _ hr_4_2) (And.intro bod_151 (And.intro (Or.inl rfl : ([] : List Nat) = [] ∨ noSh (.int .i64 r_4_2) = true) trivial))) (by kernel_rfl) (by kernel_rfl) ?_
    refine seqQ_norm ?_
    refine Wp.seqN (by kernel_rfl) ?_
    obtain ⟨c_5_5, hs_5_5, h⟩ := bsome h
    obtain ⟨_, hk_5_7, h⟩ := bsome h
    refine Wp.reg tiok mix hc (by kernel_rfl) (ah := none) (rs := [some (.no), some (.no), some (.no), some (.no), some (.no), some (.eqv (.no) ⟨[(18, .sl (List.map I c_5_5))], [], []⟩), some (.mk 6 false), some (.eqv (.mk 7 true) ⟨[(20, .rs 7)], [(7, some (.arr (List.map LI_s (out_4 ++ [c_5_5])))), (3, none), (6, none)], [7]⟩), some (.no)]) (kt := [0, 3, 5]) (ko := [7]) (T' := [(0, .sl (List.map I ty0)), (3, .rs 7), (5, .int .i64 r_4_2)]) (O' := [(7, .arr (List.map LI_s (out_4 ++ [c_5_5])))]) (by kernel_rfl) (And.intro (cut_wr (d := 18) I hs_5_5) (And.intro (cut_ob (enc := I) (sz := 1) sz_I hs_5_5) (And.intro (congrArg (fun z => (⟨[(20, .rs 7)], [(7, some (.arr z)), (3, none), (6, none)], [7]⟩ : Wr)) ((List.map_append).symm : (List.map LI_s out_4) ++ (List.map LI_s [c_5_5]) = List.map LI_s (out_4 ++ [c_5_5]))) (And.intro (app_ob (enc1 := LI_s) (enc2 := LI_s) (e1 := out_4) (e2 := [c_5_5]) (sz := 1) ek_LI_s ek_LI_s hk_5_7) trivial)))) (by kernel_rfl) (by kernel_rfl) ?_
    refine seqQ_norm ?_
    refine Wp.reg tiok mix hc (by kernel_rfl) (ah := none) (rs := [some (.no), some (.no)]) (kt := [0, 3, 4]) (ko := [7]) (T' := [(0, .sl (List.map I ty0)), (3, .rs 7), (4, .int .i64 r_4_2)]) (O' := [(7, .arr (List.map LI_s (out_4 ++ [c_5_5])))]) (by kernel_rfl) trivial (by kernel_rfl) (by kernel_rfl) ?_
    refine blockQ_norm ?_
    refine loopQ_norm ?_
    exact WpL.view (fun a w hv => SRx.renL [(3, 7)] hv (by kernel_rfl) (by kernel_rfl) (by kernel_rfl)) (impl_parts_l0_ih _ _ h c hc)
  · refine Wp.condF (b := (decide (at_2 < (ty0.length : Int)))) (by kernel_rfl) (by kernel_rfl) hb_5 ?_
    refine Wp.exitN (i := 0) (by kernel_rfl) ?_
    refine seqQ_exit ?_
    refine loopQ_exit ?_
    obtain rfl := Option.some.inj h
    exact Into.view (fun a w hv => SRx.renL [] hv (by kernel_rfl) (by kernel_rfl) (by kernel_rfl))
def impl_parts (ty0 : (List Int)) : Option ((List (List Int))) :=
    (impl_parts_l0 (ty0, [], 1)) >>= fun out_6 =>
    some out_6
def M_impl_parts (ty0 : (List Int)) (r : (List (List Int))) : Prop :=
  FnSound Try.prog 104 [.sl (List.map I ty0)] (.osl (List.map LI_s r)) []
theorem impl_parts_s : ∀ p r, impl_parts p = some r → M_impl_parts p r := by
  rintro ty0 r h
  unfold impl_parts at h
  show FnSound Try.prog 104 [.sl (List.map I ty0)] (.osl (List.map LI_s r)) []
  refine FnSound.body0 tiok (fn := Try.f104) (code := B104) (by kernel_rfl) (by kernel_rfl) (by kernel_rfl) (by kernel_rfl) (nt := 23) (by kernel_rfl) (by kernel_rfl) (T := [(0, .sl (List.map I ty0))]) (O := []) (by kernel_rfl) (by kernel_rfl) (fun c hc => ?_)
  refine Wp.seqN (by kernel_rfl) ?_
  refine Wp.reg tiok mix hc (by kernel_rfl) (ah := none) (rs := [some (.no)]) (kt := [0]) (ko := []) (T' := [(0, .sl (List.map I ty0))]) (O' := []) (by kernel_rfl) trivial (by kernel_rfl) (by kernel_rfl) ?_
  refine seqQ_norm ?_
  refine Wp.seqN (by kernel_rfl) ?_
  refine Wp.reg tiok mix hc (by kernel_rfl) (ah := none) (rs := [some (.no)]) (kt := [0, 3]) (ko := []) (T' := [(0, .sl (List.map I ty0)), (3, .nils)]) (O' := []) (by kernel_rfl) trivial (by kernel_rfl) (by kernel_rfl) ?_
  refine seqQ_norm ?_
  refine Wp.seqN (by kernel_rfl) ?_
  refine Wp.seqN (by kernel_rfl) ?_
  refine Wp.reg tiok mix hc (by kernel_rfl) (ah := none) (rs := [some (.no)]) (kt := [0, 3, 4]) (ko := []) (T' := [(0, .sl (List.map I ty0)), (3, .nils), (4, .int .i64 1)]) (O' := []) (by kernel_rfl) trivial (by kernel_rfl) (by kernel_rfl) ?_
  refine seqQ_norm ?_
  refine Wp.blockN (i := 0) (by kernel_rfl) ?_
  obtain ⟨out_6, hl_7, h⟩ := bsome h
  have hL := impl_parts_l0_s _ _ hl_7 c hc
  refine Wp.loopN (by kernel_rfl) (WpL.view (fun a w hv => SRx.renL [(3, 8)] (SRx.nilTL 3 8 hv (by kernel_rfl) (by kernel_rfl)) (by kernel_rfl) (by kernel_rfl) (by kernel_rfl)) (?_ : WpL _ c _ _ (mkS [(0, .sl (List.map I ty0)), (3, .rs 3), (4, .int .i64 1)] [(3, .arr (List.map LI_s []))])))
  · refine WpL.into (e := (.exit 0)) (mkS [(3, .rs 3)] [(3, .arr (List.map LI_s out_6))]) hL ?_
    refine blockQ_hit ?_
    refine seqQ_norm ?_
    refine Wp.seqN (by kernel_rfl) ?_
    refine Wp.reg tiok mix hc (by kernel_rfl) (ah := none) (rs := [some (.no), some (.no)]) (kt := [2]) (ko := [3]) (T' := [(2, .rs 3)]) (O' := [(3, .arr (List.map LI_s out_6))]) (by kernel_rfl) trivial (by kernel_rfl) (by kernel_rfl) ?_
    refine seqQ_norm ?_
    refine Wp.retN (by kernel_rfl) ?_
    obtain rfl := Option.some.inj h
    exact RetQ.ret (fl := [true]) (by kernel_rfl)
def slices_Equal_int_F1 (c : Ctx) : (Unit) ⊕ (Bool) → Exit → AState → Prop
  | .inl _ => Into c (.exit 0) (mkS [] [])
  | .inr r => RetE TIx Try.f124 [] (.bool r)
def slices_Equal_int_l0 (p : (List Int) × (List Int) × Int) : Option ((Unit) ⊕ (Bool)) :=
  match p with
  | (s10, s21, w_4) =>
    if (decide (w_4 < (s10.length : Int))) = true then
      (idx s10 w_4) >>= fun e_6_2 =>
      (idx s21 w_4) >>= fun e_6_6 =>
      if (e_6_2 != e_6_6) = true then
        some (.inr false)
      else
        slices_Equal_int_l0 (s10, s21, (wr (w_4 + 1)))
    else
      some (.inl ())
  partial_fixpoint
def M_slices_Equal_int_l0 (p : (List Int) × (List Int) × Int) (fl : (Unit) ⊕ (Bool)) : Prop :=
  match p with
  | (s10, s21, w_4) => ∀ c : Ctx, c.nt = 26 → WpL Try.prog c (cl (cl (cr (cl (cr (cr B124)))))) (slices_Equal_int_F1 c fl) (mkS [(0, .sl (List.map I s10)), (1, .sl (List.map I s21)), (12, .int .i64 (s10.length : Int)), (13, .int .i64 w_4)] [])
theorem slices_Equal_int_l0_s : ∀ p r, slices_Equal_int_l0 p = some r → M_slices_Equal_int_l0 p r := by
  refine slices_Equal_int_l0.partial_correctness M_slices_Equal_int_l0 ?_
  rintro slices_Equal_int_l0_f slices_Equal_int_l0_ih ⟨s10, s21, w_4⟩ r h
  intro c hc
  show WpL Try.prog c (cl (cl (cr (cl (cr (cr B124)))))) (slices_Equal_int_F1 c r) (mkS [(0, .sl (List.map I s10)), (1, .sl (List.map I s21)), (12, .int .i64 (s10.length : Int)), (13, .int .i64 w_4)] [])
  refine WpL.step ?_
  refine Wp.seqN (by kernel_rfl) ?_
  refine Wp.reg tiok mix hc (by kernel_rfl) (ah := none) (rs := [some (.no)]) (kt := [0, 1, 12, 13, 14]) (ko := []) (T' := [(0, .sl (List.map I s10)), (1, .sl (List.map I s21)), (12, .int .i64 (s10.length : Int)), (13, .int .i64 w_4), (14, .bool (decide (w_4 < (s10.length : Int))))]) (O' := []) (by kernel_rfl) trivial (by kernel_rfl) (by kernel_rfl) ?_
  refine seqQ_norm ?_
  refine Wp.seqN (by kernel_rfl) ?_
  rcases itesome h with ⟨hb_5, h⟩ | ⟨hb_5, h⟩
  · refine Wp.condT (b := (decide (w_4 < (s10.length : Int)))) (by kernel_rfl) (by kernel_rfl) hb_5 ?_
    refine Wp.skipN (by kernel_rfl) ?_
    refine seqQ_norm ?_
    refine Wp.seqN (by kernel_rfl) ?_
    refine Wp.blockN (i := 1) (by kernel_rfl) ?_
    refine Wp.seqN (by kernel_rfl) ?_
    refine Wp.reg tiok mix hc (by kernel_rfl) (ah := none) (rs := [some (.no), some (.no)]) (kt := [0, 1, 5, 12, 13]) (ko := []) (T' := [(0, .sl (List.map I s10)), (1, .sl (List.map I s21)), (5, .int .i64 w_4), (12, .int .i64 (s10.length : Int)), (13, .int .i64 w_4)]) (O' := []) (by kernel_rfl) trivial (by kernel_rfl) (by kernel_rfl) ?_
    refine seqQ_norm ?_
    refine Wp.seqN (by kernel_rfl) ?_
    obtain ⟨e_6_2, hi_6_2, h⟩ := bsome h
    obtain ⟨e_6_6, hi_6_6, h⟩ := bsome h
    refine Wp.reg tiok mix hc (by kernel_rfl) (ah := (some [[], [], [0, 1], [0, 1, 2], [], [], [4, 5], [4, 5, 6], [0, 1, 2, 3, 4, 5, 6, 7]])) (rs := [some (.no), some (.no), some (.el (.int .i64 e_6_2)), some (.no), some (.no), some (.no), some (.el (.int .i64 e_6_6)), some (.no), some (.no)]) (kt := [0, 1, 12, 13, 24]) (ko := []) (T' := [(0, .sl (List.map I s10)), (1, .sl (List.map I s21)), (12, .int .i64 (s10.length : Int)), (13, .int .i64 w_4), (24, .bool (e_6_2 != e_6_6))]) (O' := []) (by kernel_rfl) (And.intro (idx_sl (enc := I) (x := .int .i64 e_6_2) hi_6_2 (eq_I e_6_2)) (And.intro (idx_sl (enc := I) (x := .int .i64 e_6_6) hi_6_6 (eq_I e_6_6)) trivial)) (by kernel_rfl) (by kernel_rfl) ?_
    refine seqQ_norm ?_
    rcases itesome h with ⟨hb_6, h⟩ | ⟨hb_6, h⟩
    · refine Wp.condT (b := (e_6_2 != e_6_6)) (by kernel_rfl) (by kernel_rfl) hb_6 ?_
      refine Wp.seqN (by kernel_rfl) ?_
      refine Wp.reg tiok mix hc (by kernel_rfl) (ah := none) (rs := [some (.no)]) (kt := [4]) (ko := []) (T' := [(4, .bool false)]) (O' := []) (by kernel_rfl) trivial (by kernel_rfl) (by kernel_rfl) ?_
      refine seqQ_norm ?_
      refine Wp.retN (by kernel_rfl) ?_
      refine blockQ_ret ?_
      refine seqQ_ret ?_
      refine loopQ_ret ?_
      obtain rfl := Option.some.inj h
      exact RetE.ret (fl := [true]) (by kernel_rfl)
    · refine Wp.condF (b := (e_6_2 != e_6_6)) (by kernel_rfl) (by kernel_rfl) hb_6 ?_
      refine Wp.skipN (by kernel_rfl) ?_
      refine blockQ_norm ?_
      refine seqQ_norm ?_
      refine Wp.reg tiok mix hc (by kernel_rfl) (ah := none) (rs := [some (.no), some (.no)]) (kt := [0, 1, 12, 13]) (ko := []) (T' := [(0, .sl (List.map I s10)), (1, .sl (List.map I s21)), (12, .int .i64 (s10.length : Int)), (13, .int .i64 (wr (w_4 + 1)))]) (O' := []) (by kernel_rfl) trivial (by kernel_rfl) (by kernel_rfl) ?_
      refine loopQ_norm ?_
      exact (slices_Equal_int_l0_ih _ _ h c hc)
  · refine Wp.condF (b := (decide (w_4 < (s10.length : Int)))) (by kernel_rfl) (by kernel_rfl) hb_5 ?_
    refine Wp.exitN (i := 0) (by kernel_rfl) ?_
    refine seqQ_exit ?_
    refine loopQ_exit ?_
    obtain rfl := Option.some.inj h
    exact Into.view (fun a w hv => SRx.renL [] hv (by kernel_rfl) (by kernel_rfl) (by kernel_rfl))
def slices_Equal_int (p : (List Int) × (List Int)) : Option (Bool) :=
  match p with
  | (s10, s21) =>
    if ((s10.length : Int) != (s21.length : Int)) = true then
      some false
    else
      (slices_Equal_int_l0 (s10, s21, 0)) >>= fun fl => match fl with
      | .inl () =>
        some true
      | .inr r =>
        some r
def M_slices_Equal_int (p : (List Int) × (List Int)) (r : Bool) : Prop :=
  match p with
  | (s10, s21) => FnSound Try.prog 124 [.sl (List.map I s10), .sl (List.map I s21)] (.bool r) []
theorem slices_Equal_int_s : ∀ p r, slices_Equal_int p = some r → M_slices_Equal_int p r := by
  rintro ⟨s10, s21⟩ r h
  unfold slices_Equal_int at h
  show FnSound Try.prog 124 [.sl (List.map I s10), .sl (List.map I s21)] (.bool r) []
  refine FnSound.body0 tiok (fn := Try.f124) (code := B124) (by kernel_rfl) (by kernel_rfl) (by kernel_rfl) (by kernel_rfl) (nt := 26) (by kernel_rfl) (by kernel_rfl) (T := [(0, .sl (List.map I s10)), (1, .sl (List.map I s21))]) (O := []) (by kernel_rfl) (by kernel_rfl) (fun c hc => ?_)
  refine Wp.seqN (by kernel_rfl) ?_
  refine Wp.reg tiok mix hc (by kernel_rfl) (ah := none) (rs := [some (.no)]) (kt := [0, 1]) (ko := []) (T' := [(0, .sl (List.map I s10)), (1, .sl (List.map I s21))]) (O' := []) (by kernel_rfl) trivial (by kernel_rfl) (by kernel_rfl) ?_
  refine seqQ_norm ?_
  refine Wp.seqN (by kernel_rfl) ?_
  refine Wp.seqN (by kernel_rfl) ?_
  refine Wp.reg tiok mix hc (by kernel_rfl) (ah := none) (rs := [some (.no), some (.eqv (.no) ⟨[(7, .int .i64 (s10.length : Int))], [], []⟩), some (.no), some (.eqv (.no) ⟨[(9, .int .i64 (s21.length : Int))], [], []⟩), some (.no)]) (kt := [0, 1, 10]) (ko := []) (T' := [(0, .sl (List.map I s10)), (1, .sl (List.map I s21)), (10, .bool ((s10.length : Int) != (s21.length : Int)))]) (O' := []) (by kernel_rfl) (And.intro (lenT (d := 7) I s10) (And.intro (lenT (d := 9) I s21) trivial)) (by kernel_rfl) (by kernel_rfl) ?_
  refine seqQ_norm ?_
  rcases itesome h with ⟨hb_1, h⟩ | ⟨hb_1, h⟩
  · refine Wp.condT (b := ((s10.length : Int) != (s21.length : Int))) (by kernel_rfl) (by kernel_rfl) hb_1 ?_
    refine Wp.seqN (by kernel_rfl) ?_
    refine Wp.reg tiok mix hc (by kernel_rfl) (ah := none) (rs := [some (.no)]) (kt := [4]) (ko := []) (T' := [(4, .bool false)]) (O' := []) (by kernel_rfl) trivial (by kernel_rfl) (by kernel_rfl) ?_
    refine seqQ_norm ?_
    refine Wp.retN (by kernel_rfl) ?_
    refine seqQ_ret ?_
    obtain rfl := Option.some.inj h
    exact RetQ.ret (fl := [true]) (by kernel_rfl)
  · refine Wp.condF (b := ((s10.length : Int) != (s21.length : Int))) (by kernel_rfl) (by kernel_rfl) hb_1 ?_
    refine Wp.skipN (by kernel_rfl) ?_
    refine seqQ_norm ?_
    refine Wp.seqN (by kernel_rfl) ?_
    refine Wp.seqN (by kernel_rfl) ?_
    refine Wp.reg tiok mix hc (by kernel_rfl) (ah := none) (rs := [some (.no), some (.eqv (.no) ⟨[(12, .int .i64 (s10.length : Int))], [], []⟩), some (.no)]) (kt := [0, 1, 12, 13]) (ko := []) (T' := [(0, .sl (List.map I s10)), (1, .sl (List.map I s21)), (12, .int .i64 (s10.length : Int)), (13, .int .i64 0)]) (O' := []) (by kernel_rfl) (And.intro (lenT (d := 12) I s10) trivial) (by kernel_rfl) (by kernel_rfl) ?_
    refine seqQ_norm ?_
    refine Wp.blockN (i := 0) (by kernel_rfl) ?_
    obtain ⟨fl, hl_7, h⟩ := bsome h
    have hL := slices_Equal_int_l0_s _ _ hl_7 c hc
    refine Wp.loopN (by kernel_rfl) ?_
    rcases fl with ⟨⟩ | r
    · refine WpL.into (e := (.exit 0)) (mkS [] []) hL ?_
      refine blockQ_hit ?_
      refine seqQ_norm ?_
      refine Wp.seqN (by kernel_rfl) ?_
      refine Wp.reg tiok mix hc (by kernel_rfl) (ah := none) (rs := [some (.no)]) (kt := [4]) (ko := []) (T' := [(4, .bool true)]) (O' := []) (by kernel_rfl) trivial (by kernel_rfl) (by kernel_rfl) ?_
      refine seqQ_norm ?_
      refine Wp.retN (by kernel_rfl) ?_
      obtain rfl := Option.some.inj h
      exact RetQ.ret (fl := [true]) (by kernel_rfl)
    · refine WpL.mono hL ?_
      rintro _ _ ⟨rfl, hfin⟩
      refine blockQ_ret ?_
      refine seqQ_ret ?_
      obtain rfl := Option.some.inj h
      exact ⟨.inl rfl, hfin⟩
end Go.Am
