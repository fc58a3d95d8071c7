/- Functions of the program as pure functions, and that it computes them. Printed by a program of mine (gen.py). -/
import Derived.Test.YtfakfcaegabgaaaGDTF3
set_option linter.unusedVariables false
set_option linter.unusedSimpArgs false
set_option maxRecDepth 100000
namespace Go.Am
open Go Go.Proofs
def impl_IsSystem_l3 (p : GSystem × Int) : Option ((Unit) ⊕ (Bool)) :=
  match p with
  | (s0, a_40) =>
    if (decide (a_40 < s0.fSize)) = true then
      (
        (impl_Systemplus (s0, 0, a_40)) >>= fun r_13_2 =>
        if (r_13_2 != a_40) = true then
          some (true)
        else
          (impl_Systemtimes (s0, 1, a_40)) >>= fun r_13_8 =>
          if (r_13_8 != a_40) = true then
            some (true)
          else
            (impl_Systemtimes (s0, a_40, 1)) >>= fun r_13_15 =>
            if (r_13_15 != a_40) = true then
              some (true)
            else
              (impl_Systemtimes (s0, 0, a_40)) >>= fun r_13_22 =>
              if (r_13_22 != 0) = true then
                some (true)
              else
                (impl_Systemtimes (s0, a_40, 0)) >>= fun r_13_28 =>
                if (r_13_28 != 0) = true then
                  some (true)
                else
                  (impl_Systembelow (s0, a_40, a_40)) >>= fun r_13_35 =>
                  some ((!r_13_35))
      ) >>= fun v_42 =>
      if v_42 = true then
        some (.inr false)
      else
        (impl_IsSystem_l2 (s0, a_40, 0)) >>= fun fl => match fl with
        | .inl () =>
          impl_IsSystem_l3 (s0, (wr (a_40 + 1)))
        | .inr r =>
          some (.inr r)
    else
      some (.inl ())
  partial_fixpoint
def M_impl_IsSystem_l3 (p : GSystem × Int) (fl : (Unit) ⊕ (Bool)) : Prop :=
  match p with
  | (s0, a_40) => ∀ c : Ctx, c.nt = 157 → WpL Try.prog c (cl (cl (cr (cl (cr (cr (cr (cr B89)))))))) (impl_IsSystem_F4 c fl) (mkS [(1, .ra 1 0), (3, .int .i64 s0.fSize), (5, .int .i64 a_40)] [(1, .box [.int .i64 s0.fSize, .sl (List.map I s0.fPlus), .sl (List.map I s0.fTimes), .sl (List.map AV.bool s0.fBelow)])])
theorem impl_IsSystem_l3_s : ∀ p r, impl_IsSystem_l3 p = some r → M_impl_IsSystem_l3 p r := by
  refine impl_IsSystem_l3.partial_correctness M_impl_IsSystem_l3 ?_
  rintro impl_IsSystem_l3_f impl_IsSystem_l3_ih ⟨s0, a_40⟩ r h
  intro c hc
  show WpL Try.prog c (cl (cl (cr (cl (cr (cr (cr (cr B89)))))))) (impl_IsSystem_F4 c r) (mkS [(1, .ra 1 0), (3, .int .i64 s0.fSize), (5, .int .i64 a_40)] [(1, .box [.int .i64 s0.fSize, .sl (List.map I s0.fPlus), .sl (List.map I s0.fTimes), .sl (List.map AV.bool s0.fBelow)])])
  refine WpL.step ?_
  refine Wp.seqN (by kernel_rfl) ?_
  refine Wp.seqN (by kernel_rfl) ?_
  refine Wp.reg tiok mix hc (by kernel_rfl) (ah := none) (rs := [some (.no), some (.no), some (.no)]) (kt := [1, 3, 5, 67]) (ko := [1]) (T' := [(1, .ra 1 0), (3, .int .i64 s0.fSize), (5, .int .i64 a_40), (67, .bool (decide (a_40 < s0.fSize)))]) (O' := [(1, .box [.int .i64 s0.fSize, .sl (List.map I s0.fPlus), .sl (List.map I s0.fTimes), .sl (List.map AV.bool s0.fBelow)])]) (by kernel_rfl) trivial (by kernel_rfl) (by kernel_rfl) ?_
  refine seqQ_norm ?_
  rcases itesome h with ⟨hb_41, h⟩ | ⟨hb_41, h⟩
  · refine Wp.condT (b := (decide (a_40 < s0.fSize))) (by kernel_rfl) (by kernel_rfl) hb_41 ?_
    refine Wp.skipN (by kernel_rfl) ?_
    refine seqQ_norm ?_
    refine Wp.seqN (by kernel_rfl) ?_
    refine Wp.blockN (i := 3) (by kernel_rfl) ?_
    refine Wp.seqN (by kernel_rfl) ?_
    refine Wp.seqN (by kernel_rfl) ?_
    obtain ⟨v_42, hj_43, h⟩ := bsome h
    refine Wp.into (x := .normal) (mkS [(1, .ra 1 0), (3, .int .i64 s0.fSize), (5, .int .i64 a_40), (107, .bool v_42)] [(1, .box [.int .i64 s0.fSize, .sl (List.map I s0.fPlus), .sl (List.map I s0.fTimes), .sl (List.map AV.bool s0.fBelow)])]) ?_ ?_
    · replace h := hj_43
      obtain ⟨r_13_2, hr_13_2, h⟩ := bsome h
      rcases itesome h with ⟨hb_13_0, h⟩ | ⟨hb_13_0, h⟩
      · refine Wp.reg tiok mix hc (by kernel_rfl) (ah := none) (rs := [some (.no), some (.no), some (.call (.int .i64 r_13_2) [] 1), some (.no), some (.no), some (.no), none, none, none, none, none, some (.cond true), some (.no), none, none, none, none, none, some (.cond true), some (.no), none, none, none, none, some (.cond true), some (.no), none, none, none, none, some (.cond true), some (.no), none, none, none, none, none, some (.cond true)]) (kt := [1, 3, 5, 107]) (ko := [1]) (T' := [(1, .ra 1 0), (3, .int .i64 s0.fSize), (5, .int .i64 a_40), (107, .bool true)]) (O' := [(1, .box [.int .i64 s0.fSize, .sl (List.map I s0.fPlus), .sl (List.map I s0.fTimes), .sl (List.map AV.bool s0.fBelow)])]) (by kernel_rfl) (And.intro (impl_Systemplus_s _ _ hr_13_2) (And.intro bod_137 (And.intro (Or.inl rfl : ([] : List Nat) = [] ∨ noSh (.int .i64 r_13_2) = true) (And.intro (neF hb_13_0 : (r_13_2 != a_40) ≠ false) (And.intro (neF hb_13_0 : (r_13_2 != a_40) ≠ false) (And.intro (neF hb_13_0 : (r_13_2 != a_40) ≠ false) (And.intro (neF hb_13_0 : (r_13_2 != a_40) ≠ false) (And.intro (neF hb_13_0 : (r_13_2 != a_40) ≠ false) (And.intro hb_13_0 (And.intro (neF (rfl : true = true) : true ≠ false) (And.intro (neF (rfl : true = true) : true ≠ false) (And.intro (neF (rfl : true = true) : true ≠ false) (And.intro (neF (rfl : true = true) : true ≠ false) (And.intro (neF (rfl : true = true) : true ≠ false) (And.intro (rfl : true = true) (And.intro (neF (rfl : true = true) : true ≠ false) (And.intro (neF (rfl : true = true) : true ≠ false) (And.intro (neF (rfl : true = true) : true ≠ false) (And.intro (neF (rfl : true = true) : true ≠ false) (And.intro (rfl : true = true) (And.intro (neF (rfl : true = true) : true ≠ false) (And.intro (neF (rfl : true = true) : true ≠ false) (And.intro (neF (rfl : true = true) : true ≠ false) (And.intro (neF (rfl : true = true) : true ≠ false) (And.intro (rfl : true = true) (And.intro (neF (rfl : true = true) : true ≠ false) (And.intro (neF (rfl : true = true) : true ≠ false) (And.intro (neF (rfl : true = true) : true ≠ false) (And.intro (neF (rfl : true = true) : true ≠ false) (And.intro (neF (rfl : true = true) : true ≠ false) (And.intro (rfl : true = true) trivial))))))))))))))))))))))))))))))) (by kernel_rfl) (by kernel_rfl) ?_
        obtain rfl := Option.some.inj h
        exact Into.mk
      · obtain ⟨r_13_8, hr_13_8, h⟩ := bsome h
        rcases itesome h with ⟨hb_13_1, h⟩ | ⟨hb_13_1, h⟩
        · refine Wp.reg tiok mix hc (by kernel_rfl) (ah := none) (rs := [some (.no), some (.no), some (.call (.int .i64 r_13_2) [] 1), some (.no), some (.no), some (.no), some (.no), some (.no), some (.call (.int .i64 r_13_8) [] 1), some (.no), some (.no), some (.cond false), some (.no), none, none, none, none, none, some (.cond true), some (.no), none, none, none, none, some (.cond true), some (.no), none, none, none, none, some (.cond true), some (.no), none, none, none, none, none, some (.cond true)]) (kt := [1, 3, 5, 107]) (ko := [1]) (T' := [(1, .ra 1 0), (3, .int .i64 s0.fSize), (5, .int .i64 a_40), (107, .bool true)]) (O' := [(1, .box [.int .i64 s0.fSize, .sl (List.map I s0.fPlus), .sl (List.map I s0.fTimes), .sl (List.map AV.bool s0.fBelow)])]) (by kernel_rfl) (And.intro (impl_Systemplus_s _ _ hr_13_2) (And.intro bod_137 (And.intro (Or.inl rfl : ([] : List Nat) = [] ∨ noSh (.int .i64 r_13_2) = true) (And.intro hb_13_0 (And.intro hb_13_0 (And.intro hb_13_0 (And.intro (impl_Systemtimes_s _ _ hr_13_8) (And.intro bod_138 (And.intro (Or.inl rfl : ([] : List Nat) = [] ∨ noSh (.int .i64 r_13_8) = true) (And.intro hb_13_0 (And.intro hb_13_0 (And.intro hb_13_0 (And.intro (neF hb_13_1 : (r_13_8 != a_40) ≠ false) (And.intro (neF hb_13_1 : (r_13_8 != a_40) ≠ false) (And.intro (neF hb_13_1 : (r_13_8 != a_40) ≠ false) (And.intro (neF hb_13_1 : (r_13_8 != a_40) ≠ false) (And.intro (neF hb_13_1 : (r_13_8 != a_40) ≠ false) (And.intro hb_13_1 (And.intro (neF (rfl : true = true) : true ≠ false) (And.intro (neF (rfl : true = true) : true ≠ false) (And.intro (neF (rfl : true = true) : true ≠ false) (And.intro (neF (rfl : true = true) : true ≠ false) (And.intro (rfl : true = true) (And.intro (neF (rfl : true = true) : true ≠ false) (And.intro (neF (rfl : true = true) : true ≠ false) (And.intro (neF (rfl : true = true) : true ≠ false) (And.intro (neF (rfl : true = true) : true ≠ false) (And.intro (rfl : true = true) (And.intro (neF (rfl : true = true) : true ≠ false) (And.intro (neF (rfl : true = true) : true ≠ false) (And.intro (neF (rfl : true = true) : true ≠ false) (And.intro (neF (rfl : true = true) : true ≠ false) (And.intro (neF (rfl : true = true) : true ≠ false) (And.intro (rfl : true = true) trivial)))))))))))))))))))))))))))))))))) (by kernel_rfl) (by kernel_rfl) ?_
          obtain rfl := Option.some.inj h
          exact Into.mk
        · obtain ⟨r_13_15, hr_13_15, h⟩ := bsome h
          rcases itesome h with ⟨hb_13_2, h⟩ | ⟨hb_13_2, h⟩
          · refine Wp.reg tiok mix hc (by kernel_rfl) (ah := none) (rs := [some (.no), some (.no), some (.call (.int .i64 r_13_2) [] 1), some (.no), some (.no), some (.no), some (.no), some (.no), some (.call (.int .i64 r_13_8) [] 1), some (.no), some (.no), some (.cond false), some (.no), some (.no), some (.no), some (.call (.int .i64 r_13_15) [] 1), some (.no), some (.no), some (.cond false), some (.no), none, none, none, none, some (.cond true), some (.no), none, none, none, none, some (.cond true), some (.no), none, none, none, none, none, some (.cond true)]) (kt := [1, 3, 5, 107]) (ko := [1]) (T' := [(1, .ra 1 0), (3, .int .i64 s0.fSize), (5, .int .i64 a_40), (107, .bool true)]) (O' := [(1, .box [.int .i64 s0.fSize, .sl (List.map I s0.fPlus), .sl (List.map I s0.fTimes), .sl (List.map AV.bool s0.fBelow)])]) (by kernel_rfl) (And.intro (impl_Systemplus_s _ _ hr_13_2) (And.intro bod_137 (And.intro (Or.inl rfl : ([] : List Nat) = [] ∨ noSh (.int .i64 r_13_2) = true) (And.intro hb_13_0 (And.intro hb_13_0 (And.intro hb_13_0 (And.intro (impl_Systemtimes_s _ _ hr_13_8) (And.intro bod_138 (And.intro (Or.inl rfl : ([] : List Nat) = [] ∨ noSh (.int .i64 r_13_8) = true) (And.intro hb_13_0 (And.intro hb_13_0 (And.intro hb_13_0 (And.intro hb_13_1 (And.intro hb_13_1 (And.intro hb_13_1 (And.intro (impl_Systemtimes_s _ _ hr_13_15) (And.intro bod_138 (And.intro (Or.inl rfl : ([] : List Nat) = [] ∨ noSh (.int .i64 r_13_15) = true) (And.intro hb_13_1 (And.intro hb_13_1 (And.intro hb_13_1 (And.intro (neF hb_13_2 : (r_13_15 != a_40) ≠ false) (And.intro (neF hb_13_2 : (r_13_15 != a_40) ≠ false) (And.intro (neF hb_13_2 : (r_13_15 != a_40) ≠ false) (And.intro (neF hb_13_2 : (r_13_15 != a_40) ≠ false) (And.intro hb_13_2 (And.intro (neF (rfl : true = true) : true ≠ false) (And.intro (neF (rfl : true = true) : true ≠ false) (And.intro (neF (rfl : true = true) : true ≠ false) (And.intro (neF (rfl : true = true) : true ≠ false) (And.intro (rfl : true = true) (And.intro (neF (rfl : true = true) : true ≠ false) (And.intro (neF (rfl : true = true) : true ≠ false) (And.intro (neF (rfl : true = true) : true ≠ false) (And.intro (neF (rfl : true = true) : true ≠ false) (And.intro (neF (rfl : true = true) : true ≠ false) (And.intro (rfl : true = true) trivial))))))))))))))))))))))))))))))))))))) (by kernel_rfl) (by kernel_rfl) ?_
            obtain rfl := Option.some.inj h
            exact Into.mk
          · obtain ⟨r_13_22, hr_13_22, h⟩ := bsome h
            rcases itesome h with ⟨hb_13_3, h⟩ | ⟨hb_13_3, h⟩
            · refine Wp.reg tiok mix hc (by kernel_rfl) (ah := none) (rs := [some (.no), some (.no), some (.call (.int .i64 r_13_2) [] 1), some (.no), some (.no), some (.no), some (.no), some (.no), some (.call (.int .i64 r_13_8) [] 1), some (.no), some (.no), some (.cond false), some (.no), some (.no), some (.no), some (.call (.int .i64 r_13_15) [] 1), some (.no), some (.no), some (.cond false), some (.no), some (.no), some (.no), some (.call (.int .i64 r_13_22) [] 1), some (.no), some (.cond false), some (.no), none, none, none, none, some (.cond true), some (.no), none, none, none, none, none, some (.cond true)]) (kt := [1, 3, 5, 107]) (ko := [1]) (T' := [(1, .ra 1 0), (3, .int .i64 s0.fSize), (5, .int .i64 a_40), (107, .bool true)]) (O' := [(1, .box [.int .i64 s0.fSize, .sl (List.map I s0.fPlus), .sl (List.map I s0.fTimes), .sl (List.map AV.bool s0.fBelow)])]) (by kernel_rfl) (And.intro (impl_Systemplus_s _ _ hr_13_2) (And.intro bod_137 (And.intro (Or.inl rfl : ([] : List Nat) = [] ∨ noSh (.int .i64 r_13_2) = true) (And.intro hb_13_0 (And.intro hb_13_0 (And.intro hb_13_0 (And.intro (impl_Systemtimes_s _ _ hr_13_8) (And.intro bod_138 (And.intro (Or.inl rfl : ([] : List Nat) = [] ∨ noSh (.int .i64 r_13_8) = true) (And.intro hb_13_0 (And.intro hb_13_0 (And.intro hb_13_0 (And.intro hb_13_1 (And.intro hb_13_1 (And.intro hb_13_1 (And.intro (impl_Systemtimes_s _ _ hr_13_15) (And.intro bod_138 (And.intro (Or.inl rfl : ([] : List Nat) = [] ∨ noSh (.int .i64 r_13_15) = true) (And.intro hb_13_1 (And.intro hb_13_1 (And.intro hb_13_1 (And.intro hb_13_2 (And.intro hb_13_2 (And.intro hb_13_2 (And.intro (impl_Systemtimes_s _ _ hr_13_22) (And.intro bod_138 (And.intro (Or.inl rfl : ([] : List Nat) = [] ∨ noSh (.int .i64 r_13_22) = true) (And.intro hb_13_2 (And.intro hb_13_2 (And.intro (neF hb_13_3 : (r_13_22 != 0) ≠ false) (And.intro (neF hb_13_3 : (r_13_22 != 0) ≠ false) (And.intro (neF hb_13_3 : (r_13_22 != 0) ≠ false) (And.intro (neF hb_13_3 : (r_13_22 != 0) ≠ false) (And.intro hb_13_3 (And.intro (neF (rfl : true = true) : true ≠ false) (And.intro (neF (rfl : true = true) : true ≠ false) (And.intro (neF (rfl : true = true) : true ≠ false) (And.intro (neF (rfl : true = true) : true ≠ false) (And.intro (neF (rfl : true = true) : true ≠ false) (And.intro (rfl : true = true) trivial)))))))))))))))))))))))))))))))))))))))) (by kernel_rfl) (by kernel_rfl) ?_
              obtain rfl := Option.some.inj h
              exact Into.mk
            · obtain ⟨r_13_28, hr_13_28, h⟩ := bsome h
              rcases itesome h with ⟨hb_13_4, h⟩ | ⟨hb_13_4, h⟩
              · refine Wp.reg tiok mix hc (by kernel_rfl) (ah := none) (rs := [some (.no), some (.no), some (.call (.int .i64 r_13_2) [] 1), some (.no), some (.no), some (.no), some (.no), some (.no), some (.call (.int .i64 r_13_8) [] 1), some (.no), some (.no), some (.cond false), some (.no), some (.no), some (.no), some (.call (.int .i64 r_13_15) [] 1), some (.no), some (.no), some (.cond false), some (.no), some (.no), some (.no), some (.call (.int .i64 r_13_22) [] 1), some (.no), some (.cond false), some (.no), some (.no), some (.no), some (.call (.int .i64 r_13_28) [] 1), some (.no), some (.cond false), some (.no), none, none, none, none, none, some (.cond true)]) (kt := [1, 3, 5, 107]) (ko := [1]) (T' := [(1, .ra 1 0), (3, .int .i64 s0.fSize), (5, .int .i64 a_40), (107, .bool true)]) (O' := [(1, .box [.int .i64 s0.fSize, .sl (List.map I s0.fPlus), .sl (List.map I s0.fTimes), .sl (List.map AV.bool s0.fBelow)])]) (by kernel_rfl) (And.intro (impl_Systemplus_s _ _ hr_13_2) (And.intro bod_137 (And.intro (Or.inl rfl : ([] : List Nat) = [] ∨ noSh (.int .i64 r_13_2) = true) (And.intro hb_13_0 (And.intro hb_13_0 (And.intro hb_13_0 (And.intro (impl_Systemtimes_s _ _ hr_13_8) (And.intro bod_138 (And.intro (Or.inl rfl : ([] : List Nat) = [] ∨ noSh (.int .i64 r_13_8) = true) (And.intro hb_13_0 (And.intro hb_13_0 (And.intro hb_13_0 (And.intro hb_13_1 (And.intro hb_13_1 (And.intro hb_13_1 (And.intro (impl_Systemtimes_s _ _ hr_13_15) (And.intro bod_138 (And.intro (Or.inl rfl : ([] : List Nat) = [] ∨ noSh (.int .i64 r_13_15) = true) (And.intro hb_13_1 (And.intro hb_13_1 (And.intro hb_13_1 (And.intro hb_13_2 (And.intro hb_13_2 (And.intro hb_13_2 (And.intro (impl_Systemtimes_s _ _ hr_13_22) (And.intro bod_138 (And.intro (Or.inl rfl : ([] : List Nat) = [] ∨ noSh (.int .i64 r_13_22) = true) (And.intro hb_13_2 (And.intro hb_13_2 (And.intro hb_13_3 (And.intro hb_13_3 (And.intro hb_13_3 (And.intro (impl_Systemtimes_s _ _ hr_13_28) (And.intro bod_138 (And.intro (Or.inl rfl : ([] : List Nat) = [] ∨ noSh (.int .i64 r_13_28) = true) (And.intro hb_13_3 (And.intro hb_13_3 (And.intro (neF hb_13_4 : (r_13_28 != 0) ≠ false) (And.intro (neF hb_13_4 : (r_13_28 != 0) ≠ false) (And.intro (neF hb_13_4 : (r_13_28 != 0) ≠ false) (And.intro (neF hb_13_4 : (r_13_28 != 0) ≠ false) (And.intro (neF hb_13_4 : (r_13_28 != 0) ≠ false) (And.intro hb_13_4 trivial))))))))))))))))))))))))))))))))))))))))))) (by kernel_rfl) (by kernel_rfl) ?_
                obtain rfl := Option.some.inj h
                exact Into.mk
              · obtain ⟨r_13_35, hr_13_35, h⟩ := bsome h
                refine Wp.reg tiok mix hc (by kernel_rfl) (ah := none) (rs := [some (.no), some (.no), some (.call (.int .i64 r_13_2) [] 1), some (.no), some (.no), some (.no), some (.no), some (.no), some (.call (.int .i64 r_13_8) [] 1), some (.no), some (.no), some (.cond false), some (.no), some (.no), some (.no), some (.call (.int .i64 r_13_15) [] 1), some (.no), some (.no), some (.cond false), some (.no), some (.no), some (.no), some (.call (.int .i64 r_13_22) [] 1), some (.no), some (.cond false), some (.no), some (.no), some (.no), some (.call (.int .i64 r_13_28) [] 1), some (.no), some (.cond false), some (.no), some (.no), some (.no), some (.no), some (.call (.bool r_13_35) [] 1), some (.no), some (.cond false)]) (kt := [1, 3, 5, 107]) (ko := [1]) (T' := [(1, .ra 1 0), (3, .int .i64 s0.fSize), (5, .int .i64 a_40), (107, .bool (!r_13_35))]) (O' := [(1, .box [.int .i64 s0.fSize, .sl (List.map I s0.fPlus), .sl (List.map I s0.fTimes), .sl (List.map AV.bool s0.fBelow)])]) (by kernel_rfl) (And.intro (impl_Systemplus_s _ _ hr_13_2) (And.intro bod_137 (And.intro (Or.inl rfl : ([] : List Nat) = [] ∨ noSh (.int .i64 r_13_2) = true) (And.intro hb_13_0 (And.intro hb_13_0 (And.intro hb_13_0 (And.intro (impl_Systemtimes_s _ _ hr_13_8) (And.intro bod_138 (And.intro (Or.inl rfl : ([] : List Nat) = [] ∨ noSh (.int .i64 r_13_8) = true) (And.intro hb_13_0 (And.intro hb_13_0 (And.intro hb_13_0 (And.intro hb_13_1 (And.intro hb_13_1 (And.intro hb_13_1 (And.intro (impl_Systemtimes_s _ _ hr_13_15) (And.intro bod_138 (And.intro (Or.inl rfl : ([] : List Nat) = [] ∨ noSh (.int .i64 r_13_15) = true) (And.intro hb_13_1 (And.intro hb_13_1 (And.intro hb_13_1 (And.intro hb_13_2 (And.intro hb_13_2 (And.intro hb_13_2 (And.intro (impl_Systemtimes_s _ _ hr_13_22) (And.intro bod_138 (And.intro (Or.inl rfl : ([] : List Nat) = [] ∨ noSh (.int .i64 r_13_22) = true) (And.intro hb_13_2 (And.intro hb_13_2 (And.intro hb_13_3 (And.intro hb_13_3 (And.intro hb_13_3 (And.intro (impl_Systemtimes_s _ _ hr_13_28) (And.intro bod_138 (And.intro (Or.inl rfl : ([] : List Nat) = [] ∨ noSh (.int .i64 r_13_28) = true) (And.intro hb_13_3 (And.intro hb_13_3 (And.intro hb_13_4 (And.intro hb_13_4 (And.intro hb_13_4 (And.intro hb_13_4 (And.intro (impl_Systembelow_s _ _ hr_13_35) (And.intro bod_139 (And.intro (Or.inl rfl : ([] : List Nat) = [] ∨ noSh (.bool r_13_35) = true) (And.intro hb_13_4 (And.intro hb_13_4 trivial)))))))))))))))))))))))))))))))))))))))))))))) (by kernel_rfl) (by kernel_rfl) ?_
                obtain rfl := Option.some.inj h
                exact Into.mk
    · clear hj_43
      refine seqQ_norm ?_
      rcases itesome h with ⟨hb_44, h⟩ | ⟨hb_44, h⟩
      · refine Wp.condT (b := v_42) (by kernel_rfl) (by kernel_rfl) hb_44 ?_
        refine Wp.seqN (by kernel_rfl) ?_
        refine Wp.reg tiok mix hc (by kernel_rfl) (ah := none) (rs := [some (.no)]) (kt := [2]) (ko := []) (T' := [(2, .bool false)]) (O' := []) (by kernel_rfl) trivial (by kernel_rfl) (by kernel_rfl) ?_
        refine seqQ_norm ?_
        refine Wp.retN (by kernel_rfl) ?_
        refine seqQ_ret ?_
        refine blockQ_ret ?_
        refine seqQ_ret ?_
        refine loopQ_ret ?_
        obtain rfl := Option.some.inj h
        exact RetE.ret (fl := [true]) (by kernel_rfl)
      · refine Wp.condF (b := v_42) (by kernel_rfl) (by kernel_rfl) hb_44 ?_
        refine Wp.skipN (by kernel_rfl) ?_
        refine seqQ_norm ?_
        refine Wp.seqN (by kernel_rfl) ?_
        refine Wp.reg tiok mix hc (by kernel_rfl) (ah := none) (rs := [some (.no)]) (kt := [1, 3, 5, 6]) (ko := [1]) (T' := [(1, .ra 1 0), (3, .int .i64 s0.fSize), (5, .int .i64 a_40), (6, .int .i64 0)]) (O' := [(1, .box [.int .i64 s0.fSize, .sl (List.map I s0.fPlus), .sl (List.map I s0.fTimes), .sl (List.map AV.bool s0.fBelow)])]) (by kernel_rfl) trivial (by kernel_rfl) (by kernel_rfl) ?_
        refine seqQ_norm ?_
        refine Wp.blockN (i := 4) (by kernel_rfl) ?_
        obtain ⟨fl, hl_66, h⟩ := bsome h
        have hL := impl_IsSystem_l2_s _ _ hl_66 c hc
        refine Wp.loopN (by kernel_rfl) ?_
        rcases fl with ⟨⟩ | r
        · refine WpL.into (e := (.exit 4)) (mkS [(1, .ra 1 0), (3, .int .i64 s0.fSize), (5, .int .i64 a_40)] [(1, .box [.int .i64 s0.fSize, .sl (List.map I s0.fPlus), .sl (List.map I s0.fTimes), .sl (List.map AV.bool s0.fBelow)])]) hL ?_
          refine blockQ_hit ?_
          refine blockQ_norm ?_
          refine seqQ_norm ?_
          refine Wp.reg tiok mix hc (by kernel_rfl) (ah := none) (rs := [some (.no), some (.no), some (.no)]) (kt := [1, 3, 5]) (ko := [1]) (T' := [(1, .ra 1 0), (3, .int .i64 s0.fSize), (5, .int .i64 (wr (a_40 + 1)))]) (O' := [(1, .box [.int .i64 s0.fSize, .sl (List.map I s0.fPlus), .sl (List.map I s0.fTimes), .sl (List.map AV.bool s0.fBelow)])]) (by kernel_rfl) trivial (by kernel_rfl) (by kernel_rfl) ?_
          refine loopQ_norm ?_
          exact (impl_IsSystem_l3_ih _ _ h c hc)
        · refine WpL.mono hL ?_
          rintro _ _ ⟨rfl, hfin⟩
          refine blockQ_ret ?_
          refine blockQ_ret ?_
          refine seqQ_ret ?_
          refine loopQ_ret ?_
          obtain rfl := Option.some.inj h
          exact ⟨rfl, hfin⟩
  · refine Wp.condF (b := (decide (a_40 < s0.fSize))) (by kernel_rfl) (by kernel_rfl) hb_41 ?_
    refine Wp.exitN (i := 2) (by kernel_rfl) ?_
    refine seqQ_exit ?_
    refine loopQ_exit ?_
    obtain rfl := Option.some.inj h
    exact Into.view (fun a w hv => SRx.renL [] hv (by kernel_rfl) (by kernel_rfl) (by kernel_rfl))
def impl_IsSystem (s0 : GSystem) : Option (Bool) :=
    (
      (impl_within (s0.fSize, 2, 16)) >>= fun r_2_1 =>
      if r_2_1 = true then
        if ((s0.fPlus.length : Int) != (wr (s0.fSize * s0.fSize))) = true then
          some (true)
        else
          if ((s0.fTimes.length : Int) != (wr (s0.fSize * s0.fSize))) = true then
            some (true)
          else
            some (((s0.fBelow.length : Int) != (wr (s0.fSize * s0.fSize))))
      else
        some (true)
    ) >>= fun v_1 =>
    if v_1 = true then
      some false
    else
      (impl_IsSystem_l0 (s0, 0)) >>= fun fl => match fl with
      | .inl () =>
        (impl_IsSystem_l3 (s0, 0)) >>= fun fl => match fl with
        | .inl () =>
          some true
        | .inr r =>
          some r
      | .inr r =>
        some r
def M_impl_IsSystem (s0 : GSystem) (r : Bool) : Prop :=
  FnSound Try.prog 89 [.agg [.int .i64 s0.fSize, .sl (List.map I s0.fPlus), .sl (List.map I s0.fTimes), .sl (List.map AV.bool s0.fBelow)]] (.bool r) []
theorem impl_IsSystem_s : ∀ p r, impl_IsSystem p = some r → M_impl_IsSystem p r := by
  rintro s0 r h
  unfold impl_IsSystem at h
  show FnSound Try.prog 89 [.agg [.int .i64 s0.fSize, .sl (List.map I s0.fPlus), .sl (List.map I s0.fTimes), .sl (List.map AV.bool s0.fBelow)]] (.bool r) []
  refine FnSound.body0 tiok (fn := Try.f89) (code := B89) (by kernel_rfl) (by kernel_rfl) (by kernel_rfl) (by kernel_rfl) (nt := 157) (by kernel_rfl) (by kernel_rfl) (T := [(0, .agg [.int .i64 s0.fSize, .sl (List.map I s0.fPlus), .sl (List.map I s0.fTimes), .sl (List.map AV.bool s0.fBelow)])]) (O := []) (by kernel_rfl) (by kernel_rfl) (fun c hc => ?_)
  refine Wp.seqN (by kernel_rfl) ?_
  refine Wp.reg tiok mix hc (by kernel_rfl) (ah := none) (rs := [some (.new 1), some (.no)]) (kt := [1]) (ko := [1]) (T' := [(1, .ra 1 0)]) (O' := [(1, .box [.int .i64 s0.fSize, .sl (List.map I s0.fPlus), .sl (List.map I s0.fTimes), .sl (List.map AV.bool s0.fBelow)])]) (by kernel_rfl) trivial (by kernel_rfl) (by kernel_rfl) ?_
  refine seqQ_norm ?_
  refine Wp.seqN (by kernel_rfl) ?_
  refine Wp.reg tiok mix hc (by kernel_rfl) (ah := none) (rs := [some (.no), some (.no), some (.no)]) (kt := [1, 3]) (ko := [1]) (T' := [(1, .ra 1 0), (3, .int .i64 s0.fSize)]) (O' := [(1, .box [.int .i64 s0.fSize, .sl (List.map I s0.fPlus), .sl (List.map I s0.fTimes), .sl (List.map AV.bool s0.fBelow)])]) (by kernel_rfl) trivial (by kernel_rfl) (by kernel_rfl) ?_
  refine seqQ_norm ?_
  refine Wp.seqN (by kernel_rfl) ?_
  refine Wp.seqN (by kernel_rfl) ?_
  obtain ⟨v_1, hj_2, h⟩ := bsome h
  refine Wp.into (x := .normal) (mkS [(1, .ra 1 0), (3, .int .i64 s0.fSize), (39, .bool v_1)] [(1, .box [.int .i64 s0.fSize, .sl (List.map I s0.fPlus), .sl (List.map I s0.fTimes), .sl (List.map AV.bool s0.fBelow)])]) ?_ ?_
  · replace h := hj_2
    obtain ⟨r_2_1, hr_2_1, h⟩ := bsome h
    rcases itesome h with ⟨hb_2_0, h⟩ | ⟨hb_2_0, h⟩
    · rcases itesome h with ⟨hb_2_1, h⟩ | ⟨hb_2_1, h⟩
      · refine Wp.reg tiok mix hc (by kernel_rfl) (ah := none) (rs := [some (.no), some (.call (.bool r_2_1) [] 1), some (.no), some (.no), some (.no), some (.no), some (.eqv (.no) ⟨[(16, .int .i64 (s0.fPlus.length : Int))], [], []⟩), some (.no), some (.no), some (.no), some (.no), some (.cond false), some (.no), none, none, none, none, none, none, none, some (.cond true), some (.no), none, none, none, none, none, none, none, some (.cond true)]) (kt := [1, 3, 39]) (ko := [1]) (T' := [(1, .ra 1 0), (3, .int .i64 s0.fSize), (39, .bool true)]) (O' := [(1, .box [.int .i64 s0.fSize, .sl (List.map I s0.fPlus), .sl (List.map I s0.fTimes), .sl (List.map AV.bool s0.fBelow)])]) (by kernel_rfl) (And.intro (impl_within_s _ _ hr_2_1) (And.intro bod_64 (And.intro (Or.inl rfl : ([] : List Nat) = [] ∨ noSh (.bool r_2_1) = true) (And.intro (nF hb_2_0) (And.intro (nF hb_2_0) (And.intro (nF hb_2_0) (And.intro (lenT (d := 16) I s0.fPlus) (And.intro (nF hb_2_0) (And.intro (nF hb_2_0) (And.intro (nF hb_2_0) (And.intro (nF hb_2_0) (And.intro (nF hb_2_0) (And.intro (neF hb_2_1 : ((s0.fPlus.length : Int) != (wr (s0.fSize * s0.fSize))) ≠ false) (And.intro (neF hb_2_1 : ((s0.fPlus.length : Int) != (wr (s0.fSize * s0.fSize))) ≠ false) (And.intro (neF hb_2_1 : ((s0.fPlus.length : Int) != (wr (s0.fSize * s0.fSize))) ≠ false) (And.intro (neF hb_2_1 : ((s0.fPlus.length : Int) != (wr (s0.fSize * s0.fSize))) ≠ false) (And.intro (neF hb_2_1 : ((s0.fPlus.length : Int) != (wr (s0.fSize * s0.fSize))) ≠ false) (And.intro (neF hb_2_1 : ((s0.fPlus.length : Int) != (wr (s0.fSize * s0.fSize))) ≠ false) (And.intro (neF hb_2_1 : ((s0.fPlus.length : Int) != (wr (s0.fSize * s0.fSize))) ≠ false) (And.intro hb_2_1 (And.intro (neF (rfl : true = true) : true ≠ false) (And.intro (neF (rfl : true = true) : true ≠ false) (And.intro (neF (rfl : true = true) : true ≠ false) (And.intro (neF (rfl : true = true) : true ≠ false) (And.intro (neF (rfl : true = true) : true ≠ false) (And.intro (neF (rfl : true = true) : true ≠ false) (And.intro (neF (rfl : true = true) : true ≠ false) (And.intro (rfl : true = true) trivial)))))))))))))))))))))))))))) (by kernel_rfl) (by kernel_rfl) ?_
        obtain rfl := Option.some.inj h
        exact Into.mk
      · rcases itesome h with ⟨hb_2_2, h⟩ | ⟨hb_2_2, h⟩
        · refine Wp.reg tiok mix hc (by kernel_rfl) (ah := none) (rs := [some (.no), some (.call (.bool r_2_1) [] 1), some (.no), some (.no), some (.no), some (.no), some (.eqv (.no) ⟨[(16, .int .i64 (s0.fPlus.length : Int))], [], []⟩), some (.no), some (.no), some (.no), some (.no), some (.cond false), some (.no), some (.no), some (.no), some (.eqv (.no) ⟨[(25, .int .i64 (s0.fTimes.length : Int))], [], []⟩), some (.no), some (.no), some (.no), some (.no), some (.cond false), some (.no), none, none, none, none, none, none, none, some (.cond true)]) (kt := [1, 3, 39]) (ko := [1]) (T' := [(1, .ra 1 0), (3, .int .i64 s0.fSize), (39, .bool true)]) (O' := [(1, .box [.int .i64 s0.fSize, .sl (List.map I s0.fPlus), .sl (List.map I s0.fTimes), .sl (List.map AV.bool s0.fBelow)])]) (by kernel_rfl) (And.intro (impl_within_s _ _ hr_2_1) (And.intro bod_64 (And.intro (Or.inl rfl : ([] : List Nat) = [] ∨ noSh (.bool r_2_1) = true) (And.intro (nF hb_2_0) (And.intro (nF hb_2_0) (And.intro (nF hb_2_0) (And.intro (lenT (d := 16) I s0.fPlus) (And.intro (nF hb_2_0) (And.intro (nF hb_2_0) (And.intro (nF hb_2_0) (And.intro (nF hb_2_0) (And.intro (nF hb_2_0) (And.intro hb_2_1 (And.intro hb_2_1 (And.intro hb_2_1 (And.intro (lenT (d := 25) I s0.fTimes) (And.intro hb_2_1 (And.intro hb_2_1 (And.intro hb_2_1 (And.intro hb_2_1 (And.intro hb_2_1 (And.intro (neF hb_2_2 : ((s0.fTimes.length : Int) != (wr (s0.fSize * s0.fSize))) ≠ false) (And.intro (neF hb_2_2 : ((s0.fTimes.length : Int) != (wr (s0.fSize * s0.fSize))) ≠ false) (And.intro (neF hb_2_2 : ((s0.fTimes.length : Int) != (wr (s0.fSize * s0.fSize))) ≠ false) (And.intro (neF hb_2_2 : ((s0.fTimes.length : Int) != (wr (s0.fSize * s0.fSize))) ≠ false) (And.intro (neF hb_2_2 : ((s0.fTimes.length : Int) != (wr (s0.fSize * s0.fSize))) ≠ false) (And.intro (neF hb_2_2 : ((s0.fTimes.length : Int) != (wr (s0.fSize * s0.fSize))) ≠ false) (And.intro (neF hb_2_2 : ((s0.fTimes.length : Int) != (wr (s0.fSize * s0.fSize))) ≠ false) (And.intro hb_2_2 trivial))))))))))))))))))))))))))))) (by kernel_rfl) (by kernel_rfl) ?_
          obtain rfl := Option.some.inj h
          exact Into.mk
        · refine Wp.reg tiok mix hc (by kernel_rfl) (ah := none) (rs := [some (.no), some (.call (.bool r_2_1) [] 1), some (.no), some (.no), some (.no), some (.no), some (.eqv (.no) ⟨[(16, .int .i64 (s0.fPlus.length : Int))], [], []⟩), some (.no), some (.no), some (.no), some (.no), some (.cond false), some (.no), some (.no), some (.no), some (.eqv (.no) ⟨[(25, .int .i64 (s0.fTimes.length : Int))], [], []⟩), some (.no), some (.no), some (.no), some (.no), some (.cond false), some (.no), some (.no), some (.no), some (.eqv (.no) ⟨[(34, .int .i64 (s0.fBelow.length : Int))], [], []⟩), some (.no), some (.no), some (.no), some (.no), some (.cond false)]) (kt := [1, 3, 39]) (ko := [1]) (T' := [(1, .ra 1 0), (3, .int .i64 s0.fSize), (39, .bool ((s0.fBelow.length : Int) != (wr (s0.fSize * s0.fSize))))]) (O' := [(1, .box [.int .i64 s0.fSize, .sl (List.map I s0.fPlus), .sl (List.map I s0.fTimes), .sl (List.map AV.bool s0.fBelow)])]) (by kernel_rfl) (And.intro (impl_within_s _ _ hr_2_1) (And.intro bod_64 (And.intro (Or.inl rfl : ([] : List Nat) = [] ∨ noSh (.bool r_2_1) = true) (And.intro (nF hb_2_0) (And.intro (nF hb_2_0) (And.intro (nF hb_2_0) (And.intro (lenT (d := 16) I s0.fPlus) (And.intro (nF hb_2_0) (And.intro (nF hb_2_0) (And.intro (nF hb_2_0) (And.intro (nF hb_2_0) (And.intro (nF hb_2_0) (And.intro hb_2_1 (And.intro hb_2_1 (And.intro hb_2_1 (And.intro (lenT (d := 25) I s0.fTimes) (And.intro hb_2_1 (And.intro hb_2_1 (And.intro hb_2_1 (And.intro hb_2_1 (And.intro hb_2_1 (And.intro hb_2_2 (And.intro hb_2_2 (And.intro hb_2_2 (And.intro (lenT (d := 34) AV.bool s0.fBelow) (And.intro hb_2_2 (And.intro hb_2_2 (And.intro hb_2_2 (And.intro hb_2_2 (And.intro hb_2_2 trivial)))))))))))))))))))))))))))))) (by kernel_rfl) (by kernel_rfl) ?_
          obtain rfl := Option.some.inj h
          exact Into.mk
    · refine Wp.reg tiok mix hc (by kernel_rfl) (ah := none) (rs := [some (.no), some (.call (.bool r_2_1) [] 1), some (.no), some (.no), none, none, none, none, none, none, none, some (.cond true), some (.no), none, none, none, none, none, none, none, some (.cond true), some (.no), none, none, none, none, none, none, none, some (.cond true)]) (kt := [1, 3, 39]) (ko := [1]) (T' := [(1, .ra 1 0), (3, .int .i64 s0.fSize), (39, .bool true)]) (O' := [(1, .box [.int .i64 s0.fSize, .sl (List.map I s0.fPlus), .sl (List.map I s0.fTimes), .sl (List.map AV.bool s0.fBelow)])]) (by kernel_rfl) (And.intro (impl_within_s _ _ hr_2_1) (And.intro bod_64 (And.intro (Or.inl rfl : ([] : List Nat) = [] ∨ noSh (.bool r_2_1) = true) (And.intro (neF (nT hb_2_0) : (!r_2_1) ≠ false) (And.intro (neF (nT hb_2_0) : (!r_2_1) ≠ false) (And.intro (neF (nT hb_2_0) : (!r_2_1) ≠ false) (And.intro (neF (nT hb_2_0) : (!r_2_1) ≠ false) (And.intro (neF (nT hb_2_0) : (!r_2_1) ≠ false) (And.intro (neF (nT hb_2_0) : (!r_2_1) ≠ false) (And.intro (neF (nT hb_2_0) : (!r_2_1) ≠ false) (And.intro (nT hb_2_0) (And.intro (neF (rfl : true = true) : true ≠ false) (And.intro (neF (rfl : true = true) : true ≠ false) (And.intro (neF (rfl : true = true) : true ≠ false) (And.intro (neF (rfl : true = true) : true ≠ false) (And.intro (neF (rfl : true = true) : true ≠ false) (And.intro (neF (rfl : true = true) : true ≠ false) (And.intro (neF (rfl : true = true) : true ≠ false) (And.intro (rfl : true = true) (And.intro (neF (rfl : true = true) : true ≠ false) (And.intro (neF (rfl : true = true) : true ≠ false) (And.intro (neF (rfl : true = true) : true ≠ false) (And.intro (neF (rfl : true = true) : true ≠ false) (And.intro (neF (rfl : true = true) : true ≠ false) (And.intro (neF (rfl : true = true) : true ≠ false) (And.intro (neF (rfl : true = true) : true ≠ false) (And.intro (rfl : true = true) trivial))))))))))))))))))))))))))) (by kernel_rfl) (by kernel_rfl) ?_
      obtain rfl := Option.some.inj h
      exact Into.mk
  · clear hj_2
    refine seqQ_norm ?_
    rcases itesome h with ⟨hb_3, h⟩ | ⟨hb_3, h⟩
    · refine Wp.condT (b := v_1) (by kernel_rfl) (by kernel_rfl) hb_3 ?_
      refine Wp.seqN (by kernel_rfl) ?_
      refine Wp.reg tiok mix hc (by kernel_rfl) (ah := none) (rs := [some (.no)]) (kt := [2]) (ko := []) (T' := [(2, .bool false)]) (O' := []) (by kernel_rfl) trivial (by kernel_rfl) (by kernel_rfl) ?_
      refine seqQ_norm ?_
      refine Wp.retN (by kernel_rfl) ?_
      refine seqQ_ret ?_
      obtain rfl := Option.some.inj h
      exact RetQ.ret (fl := [true]) (by kernel_rfl)
    · refine Wp.condF (b := v_1) (by kernel_rfl) (by kernel_rfl) hb_3 ?_
      refine Wp.skipN (by kernel_rfl) ?_
      refine seqQ_norm ?_
      refine Wp.seqN (by kernel_rfl) ?_
      refine Wp.seqN (by kernel_rfl) ?_
      refine Wp.reg tiok mix hc (by kernel_rfl) (ah := none) (rs := [some (.no), some (.no), some (.eqv (.no) ⟨[(42, .int .i64 (s0.fPlus.length : Int))], [], []⟩), some (.no)]) (kt := [1, 3, 42, 43]) (ko := [1]) (T' := [(1, .ra 1 0), (3, .int .i64 s0.fSize), (42, .int .i64 (s0.fPlus.length : Int)), (43, .int .i64 0)]) (O' := [(1, .box [.int .i64 s0.fSize, .sl (List.map I s0.fPlus), .sl (List.map I s0.fTimes), .sl (List.map AV.bool s0.fBelow)])]) (by kernel_rfl) (And.intro (lenT (d := 42) I s0.fPlus) trivial) (by kernel_rfl) (by kernel_rfl) ?_
      refine seqQ_norm ?_
      refine Wp.blockN (i := 0) (by kernel_rfl) ?_
      obtain ⟨fl, hl_13, h⟩ := bsome h
      have hL := impl_IsSystem_l0_s _ _ hl_13 c hc
      refine Wp.loopN (by kernel_rfl) ?_
      rcases fl with ⟨⟩ | r
      · refine WpL.into (e := (.exit 0)) (mkS [(1, .ra 1 0), (3, .int .i64 s0.fSize)] [(1, .box [.int .i64 s0.fSize, .sl (List.map I s0.fPlus), .sl (List.map I s0.fTimes), .sl (List.map AV.bool s0.fBelow)])]) hL ?_
        refine blockQ_hit ?_
        refine seqQ_norm ?_
        refine Wp.seqN (by kernel_rfl) ?_
        refine Wp.seqN (by kernel_rfl) ?_
        refine Wp.reg tiok mix hc (by kernel_rfl) (ah := none) (rs := [some (.no)]) (kt := [1, 3, 5]) (ko := [1]) (T' := [(1, .ra 1 0), (3, .int .i64 s0.fSize), (5, .int .i64 0)]) (O' := [(1, .box [.int .i64 s0.fSize, .sl (List.map I s0.fPlus), .sl (List.map I s0.fTimes), .sl (List.map AV.bool s0.fBelow)])]) (by kernel_rfl) trivial (by kernel_rfl) (by kernel_rfl) ?_
        refine seqQ_norm ?_
        refine Wp.blockN (i := 2) (by kernel_rfl) ?_
        obtain ⟨fl, hl_67, h⟩ := bsome h
        have hL := impl_IsSystem_l3_s _ _ hl_67 c hc
        refine Wp.loopN (by kernel_rfl) ?_
        rcases fl with ⟨⟩ | r
        · refine WpL.into (e := (.exit 2)) (mkS [] []) hL ?_
          refine blockQ_hit ?_
          refine seqQ_norm ?_
          refine Wp.seqN (by kernel_rfl) ?_
          refine Wp.reg tiok mix hc (by kernel_rfl) (ah := none) (rs := [some (.no)]) (kt := [2]) (ko := []) (T' := [(2, .bool true)]) (O' := []) (by kernel_rfl) trivial (by kernel_rfl) (by kernel_rfl) ?_
          refine seqQ_norm ?_
          refine Wp.retN (by kernel_rfl) ?_
          obtain rfl := Option.some.inj h
          exact RetQ.ret (fl := [true]) (by kernel_rfl)
        · refine WpL.mono hL ?_
          rintro _ _ ⟨rfl, hfin⟩
          refine blockQ_ret ?_
          refine seqQ_ret ?_
          obtain rfl := Option.some.inj h
          exact ⟨.inl rfl, hfin⟩
      · refine WpL.mono hL ?_
        rintro _ _ ⟨rfl, hfin⟩
        refine blockQ_ret ?_
        refine seqQ_ret ?_
        obtain rfl := Option.some.inj h
        exact ⟨.inl rfl, hfin⟩
def impl_IsType (p : GSystem × (List Int)) : Option (Bool) :=
  match p with
  | (s0, ty1) =>
    (
      (impl_isTypeOf (s0, ty1)) >>= fun r_1_2 =>
      if r_1_2 = true then
        (impl_IsSystem s0) >>= fun r_1_5 =>
        some (r_1_5)
      else
        some (false)
    ) >>= fun v_1 =>
    some v_1
def M_impl_IsType (p : GSystem × (List Int)) (r : Bool) : Prop :=
  match p with
  | (s0, ty1) => FnSound Try.prog 47 [.agg [.int .i64 s0.fSize, .sl (List.map I s0.fPlus), .sl (List.map I s0.fTimes), .sl (List.map AV.bool s0.fBelow)], .sl (List.map I ty1)] (.bool r) []
theorem impl_IsType_s : ∀ p r, impl_IsType p = some r → M_impl_IsType p r := by
  rintro ⟨s0, ty1⟩ r h
  unfold impl_IsType at h
  show FnSound Try.prog 47 [.agg [.int .i64 s0.fSize, .sl (List.map I s0.fPlus), .sl (List.map I s0.fTimes), .sl (List.map AV.bool s0.fBelow)], .sl (List.map I ty1)] (.bool r) []
  refine FnSound.body0 tiok (fn := Try.f47) (code := B47) (by kernel_rfl) (by kernel_rfl) (by kernel_rfl) (by kernel_rfl) (nt := 12) (by kernel_rfl) (by kernel_rfl) (T := [(0, .agg [.int .i64 s0.fSize, .sl (List.map I s0.fPlus), .sl (List.map I s0.fTimes), .sl (List.map AV.bool s0.fBelow)]), (1, .sl (List.map I ty1))]) (O := []) (by kernel_rfl) (by kernel_rfl) (fun c hc => ?_)
  refine Wp.seqN (by kernel_rfl) ?_
  refine Wp.reg tiok mix hc (by kernel_rfl) (ah := none) (rs := [some (.new 1), some (.no)]) (kt := [1, 2]) (ko := [1]) (T' := [(1, .sl (List.map I ty1)), (2, .ra 1 0)]) (O' := [(1, .box [.int .i64 s0.fSize, .sl (List.map I s0.fPlus), .sl (List.map I s0.fTimes), .sl (List.map AV.bool s0.fBelow)])]) (by kernel_rfl) trivial (by kernel_rfl) (by kernel_rfl) ?_
  refine seqQ_norm ?_
  refine Wp.seqN (by kernel_rfl) ?_
  obtain ⟨v_1, hj_2, h⟩ := bsome h
  refine Wp.into (x := .normal) (mkS [(4, .bool v_1)] []) ?_ ?_
  · replace h := hj_2
    obtain ⟨r_1_2, hr_1_2, h⟩ := bsome h
    rcases itesome h with ⟨hb_1_0, h⟩ | ⟨hb_1_0, h⟩
    · obtain ⟨r_1_5, hr_1_5, h⟩ := bsome h
      refine Wp.reg tiok mix hc (by kernel_rfl) (ah := none) (rs := [some (.no), some (.no), some (.call (.bool r_1_2) [] 1), some (.no), some (.no), some (.call (.bool r_1_5) [] 1), some (.cond true), some (.no)]) (kt := [4]) (ko := []) (T' := [(4, .bool r_1_5)]) (O' := []) (by kernel_rfl) (And.intro (impl_isTypeOf_s _ _ hr_1_2) (And.intro bod_102 (And.intro (Or.inl rfl : ([] : List Nat) = [] ∨ noSh (.bool r_1_2) = true) (And.intro hb_1_0 (And.intro hb_1_0 (And.intro (impl_IsSystem_s _ _ hr_1_5) (And.intro bod_89 (And.intro (Or.inl rfl : ([] : List Nat) = [] ∨ noSh (.bool r_1_5) = true) (And.intro hb_1_0 trivial))))))))) (by kernel_rfl) (by kernel_rfl) ?_
      obtain rfl := Option.some.inj h
      exact Into.mk
    · refine Wp.reg tiok mix hc (by kernel_rfl) (ah := none) (rs := [some (.no), some (.no), some (.call (.bool r_1_2) [] 1), some (.no), none, none, some (.cond false), some (.no)]) (kt := [4]) (ko := []) (T' := [(4, .bool false)]) (O' := []) (by kernel_rfl) (And.intro (impl_isTypeOf_s _ _ hr_1_2) (And.intro bod_102 (And.intro (Or.inl rfl : ([] : List Nat) = [] ∨ noSh (.bool r_1_2) = true) (And.intro (neT hb_1_0 : r_1_2 ≠ true) (And.intro (neT hb_1_0 : r_1_2 ≠ true) (And.intro hb_1_0 trivial)))))) (by kernel_rfl) (by kernel_rfl) ?_
      obtain rfl := Option.some.inj h
      exact Into.mk
  · clear hj_2
    refine seqQ_norm ?_
    refine Wp.retN (by kernel_rfl) ?_
    obtain rfl := Option.some.inj h
    exact RetQ.ret (fl := [true]) (by kernel_rfl)
def impl_parts_F1 (c : Ctx) : (List (List Int)) → Exit → AState → Prop
  | out_6 => Into c (.exit 0) (mkS [(3, .rs 3)] [(3, .arr (List.map LI_s out_6))])
def impl_parts_l0 (p : (List Int) × (List (List Int)) × Int) : Option ((List (List Int))) :=
  match p with
  | (ty0, out_4, at_2) =>
    if (decide (at_2 < (ty0.length : Int))) = true then
      (impl_typeEnd (ty0, at_2)) >>= fun r_4_2 =>
      (cut ty0 (some at_2) (some r_4_2) (some r_4_2)) >>= fun c_5_5 =>
      (fits (out_4.length + [c_5_5].length) 24) >>= fun _ =>
      impl_parts_l0 (ty0, (out_4 ++ [c_5_5]), r_4_2)
    else
      some (out_4)
  partial_fixpoint
def M_impl_parts_l0 (p : (List Int) × (List (List Int)) × Int) (fl : (List (List Int))) : Prop :=
  match p with
  | (ty0, out_4, at_2) => ∀ c : Ctx, c.nt = 23 → WpL Try.prog c (cl (cl (cr (cl (cr (cr B104)))))) (impl_parts_F1 c fl) (mkS [(0, .sl (List.map I ty0)), (3, .rs 3), (4, .int .i64 at_2)] [(3, .arr (List.map LI_s out_4))])
theorem impl_parts_l0_s : ∀ p r, impl_parts_l0 p = some r → M_impl_parts_l0 p r := by
  refine impl_parts_l0.partial_correctness M_impl_parts_l0 ?_
  rintro impl_parts_l0_f impl_parts_l0_ih ⟨ty0, out_4, at_2⟩ r h
  intro c hc
  show WpL Try.prog c (cl (cl (cr (cl (cr (cr B104)))))) (impl_parts_F1 c r) (mkS [(0, .sl (List.map I ty0)), (3, .rs 3), (4, .int .i64 at_2)] [(3, .arr (List.map LI_s out_4))])
  refine WpL.step ?_
  refine Wp.seqN (by kernel_rfl) ?_
  refine Wp.seqN (by kernel_rfl) ?_
  refine Wp.reg tiok mix hc (by kernel_rfl) (ah := none) (rs := [some (.no), some (.no), some (.eqv (.no) ⟨[(8, .int .i64 (ty0.length : Int))], [], []⟩), some (.no)]) (kt := [0, 3, 4, 9]) (ko := [3]) (T' := [(0, .sl (List.map I ty0)), (3, .rs 3), (4, .int .i64 at_2), (9, .bool (decide (at_2 < (ty0.length : Int))))]) (O' := [(3, .arr (List.map LI_s out_4))]) (by kernel_rfl) (And.intro (lenT (d := 8) I ty0) trivial) (by kernel_rfl) (by kernel_rfl) ?_
  refine seqQ_norm ?_
  rcases itesome h with ⟨hb_5, h⟩ | ⟨hb_5, h⟩
  · refine Wp.condT (b := (decide (at_2 < (ty0.length : Int)))) (by kernel_rfl) (by kernel_rfl) hb_5 ?_
    refine Wp.skipN (by kernel_rfl) ?_
    refine seqQ_norm ?_
    refine Wp.blockN (i := 1) (by kernel_rfl) ?_
    refine Wp.seqN (by kernel_rfl) ?_
    obtain ⟨r_4_2, hr_4_2, h⟩ := bsome h
    refine Wp.reg tiok mix hc (by kernel_rfl) (ah := none) (rs := [some (.no), some (.no), some (.call (.int .i64 r_4_2) [] 1), some (.no)]) (kt := [0, 3, 4, 5]) (ko := [3]) (T' := [(0, .sl (List.map I ty0)), (3, .rs 3), (4, .int .i64 at_2), (5, .int .i64 r_4_2)]) (O' := [(3, .arr (List.map LI_s out_4))]) (by kernel_rfl) (And.intro (impl_typeEnd_s _ _ hr_4_2) (And.intro bod_151 (And.intro (Or.inl rfl : ([] : List Nat) = [] ∨ noSh (.int .i64 r_4_2) = true) trivial))) (by kernel_rfl) (by kernel_rfl) ?_
    refine seqQ_norm ?_
    refine Wp.seqN (by kernel_rfl) ?_
    obtain ⟨c_5_5, hs_5_5, h⟩ := bsome h
    obtain ⟨_, hk_5_7, h⟩ := bsome h
    refine Wp.reg tiok mix hc (by kernel_rfl) (ah := none) (rs := [some (.no), some (.no), some (.no), some (.no), some (.no), some (.eqv (.no) ⟨[(18, .sl (List.map I c_5_5))], [], []⟩), some (.mk 6 false), some (.eqv (.mk 7 true) ⟨[(20, .rs 7)], [(7, some (.arr (List.map LI_s (out_4 ++ [c_5_5])))), (3, none), (6, none)], [7]⟩), some (.no)]) (kt := [0, 3, 5]) (ko := [7]) (T' := [(0, .sl (List.map I ty0)), (3, .rs 7), (5, .int .i64 r_4_2)]) (O' := [(7, .arr (List.map LI_s (out_4 ++ [c_5_5])))]) (by kernel_rfl) (And.intro (cut_wr (d := 18) I hs_5_5) (And.intro (cut_ob (enc := I) (sz := 1) sz_I hs_5_5) (And.intro (congrArg (fun z => (⟨[(20, .rs 7)], [(7, some (.arr z)), (3, none), (6, none)], [7]⟩ : Wr)) ((List.map_append).symm : (List.map LI_s out_4) ++ (List.map LI_s [c_5_5]) = List.map LI_s (out_4 ++ [c_5_5]))) (And.intro (app_ob (enc1 := LI_s) (enc2 := LI_s) (e1 := out_4) (e2 := [c_5_5]) (sz := 1) ek_LI_s ek_LI_s hk_5_7) trivial)))) (by kernel_rfl) (by kernel_rfl) ?_
    refine seqQ_norm ?_
    refine Wp.reg tiok mix hc (by kernel_rfl) (ah := none) (rs := [some (.no), some (.no)]) (kt := [0, 3, 4]) (ko := [7]) (T' := [(0, .sl (List.map I ty0)), (3, .rs 7), (4, .int .i64 r_4_2)]) (O' := [(7, .arr (List.map LI_s (out_4 ++ [c_5_5])))]) (by kernel_rfl) trivial (by kernel_rfl) (by kernel_rfl) ?_
    refine blockQ_norm ?_
    refine loopQ_norm ?_
    exact WpL.view (fun a w hv => SRx.renL [(3, 7)] hv (by kernel_rfl) (by kernel_rfl) (by kernel_rfl)) (impl_parts_l0_ih _ _ h c hc)
  · refine Wp.condF (b := (decide (at_2 < (ty0.length : Int)))) (by kernel_rfl) (by kernel_rfl) hb_5 ?_
    refine Wp.exitN (i := 0) (by kernel_rfl) ?_
    refine seqQ_exit ?_
    refine loopQ_exit ?_
    obtain rfl := Option.some.inj h
    exact Into.view (fun a w hv => SRx.renL [] hv (by kernel_rfl) (by kernel_rfl) (by kernel_rfl))
def impl_parts (ty0 : (List Int)) : Option ((List (List Int))) :=
    (impl_parts_l0 (ty0, [], 1)) >>= fun out_6 =>
    some out_6
def M_impl_parts (ty0 : (List Int)) (r : (List (List Int))) : Prop :=
  FnSound Try.prog 104 [.sl (List.map I ty0)] (.osl (List.map LI_s r)) []
theorem impl_parts_s : ∀ p r, impl_parts p = some r → M_impl_parts p r := by
  rintro ty0 r h
  unfold impl_parts at h
  show FnSound Try.prog 104 [.sl (List.map I ty0)] (.osl (List.map LI_s r)) []
  refine FnSound.body0 tiok (fn := Try.f104) (code := B104) (by kernel_rfl) (by kernel_rfl) (by kernel_rfl) (by kernel_rfl) (nt := 23) (by kernel_rfl) (by kernel_rfl) (T := [(0, .sl (List.map I ty0))]) (O := []) (by kernel_rfl) (by kernel_rfl) (fun c hc => ?_)
  refine Wp.seqN (by kernel_rfl) ?_
  refine Wp.reg tiok mix hc (by kernel_rfl) (ah := none) (rs := [some (.no)]) (kt := [0]) (ko := []) (T' := [(0, .sl (List.map I ty0))]) (O' := []) (by kernel_rfl) trivial (by kernel_rfl) (by kernel_rfl) ?_
  refine seqQ_norm ?_
  refine Wp.seqN (by kernel_rfl) ?_
  refine Wp.reg tiok mix hc (by kernel_rfl) (ah := none) (rs := [some (.no)]) (kt := [0, 3]) (ko := []) (T' := [(0, .sl (List.map I ty0)), (3, .nils)]) (O' := []) (by kernel_rfl) trivial (by kernel_rfl) (by kernel_rfl) ?_
  refine seqQ_norm ?_
  refine Wp.seqN (by kernel_rfl) ?_
  refine Wp.seqN (by kernel_rfl) ?_
  refine Wp.reg tiok mix hc (by kernel_rfl) (ah := none) (rs := [some (.no)]) (kt := [0, 3, 4]) (ko := []) (T' := [(0, .sl (List.map I ty0)), (3, .nils), (4, .int .i64 1)]) (O' := []) (by kernel_rfl) trivial (by kernel_rfl) (by kernel_rfl) ?_
  refine seqQ_norm ?_
  refine Wp.blockN (i := 0) (by kernel_rfl) ?_
  obtain ⟨out_6, hl_7, h⟩ := bsome h
  have hL := impl_parts_l0_s _ _ hl_7 c hc
  refine Wp.loopN (by kernel_rfl) (WpL.view (fun a w hv => SRx.renL [(3, 8)] (SRx.nilTL 3 8 hv (by kernel_rfl) (by kernel_rfl)) (by kernel_rfl) (by kernel_rfl) (by kernel_rfl)) (?_ : WpL _ c _ _ (mkS [(0, .sl (List.map I ty0)), (3, .rs 3), (4, .int .i64 1)] [(3, .arr (List.map LI_s []))])))
  · refine WpL.into (e := (.exit 0)) (mkS [(3, .rs 3)] [(3, .arr (List.map LI_s out_6))]) hL ?_
    refine blockQ_hit ?_
    refine seqQ_norm ?_
    refine Wp.seqN (by kernel_rfl) ?_
    refine Wp.reg tiok mix hc (by kernel_rfl) (ah := none) (rs := [some (.no), some (.no)]) (kt := [2]) (ko := [3]) (T' := [(2, .rs 3)]) (O' := [(3, .arr (List.map LI_s out_6))]) (by kernel_rfl) trivial (by kernel_rfl) (by kernel_rfl) ?_
    refine seqQ_norm ?_
    refine Wp.retN (by kernel_rfl) ?_
    obtain rfl := Option.some.inj h
    exact RetQ.ret (fl := [true]) (by kernel_rfl)
def slices_Clone_int (s0 : (List Int)) : Option ((List Int)) :=
    (fits (([] : List Int).length + s0.length) 8) >>= fun _ =>
    some s0
def M_slices_Clone_int (s0 : (List Int)) (r : (List Int)) : Prop :=
  FnSound Try.prog 105 [.sl (List.map I s0)] (.osl (List.map I r)) []
theorem slices_Clone_int_s : ∀ p r, slices_Clone_int p = some r → M_slices_Clone_int p r := by
  rintro s0 r h
  unfold slices_Clone_int at h
  show FnSound Try.prog 105 [.sl (List.map I s0)] (.osl (List.map I r)) []
  refine FnSound.body0 tiok (fn := Try.f105) (code := B105) (by kernel_rfl) (by kernel_rfl) (by kernel_rfl) (by kernel_rfl) (nt := 8) (by kernel_rfl) (by kernel_rfl) (T := [(0, .sl (List.map I s0))]) (O := []) (by kernel_rfl) (by kernel_rfl) (fun c hc => ?_)
  refine Wp.seqN (by kernel_rfl) ?_
  refine Wp.reg tiok mix hc (by kernel_rfl) (ah := none) (rs := [some (.no)]) (kt := [0]) (ko := []) (T' := [(0, .sl (List.map I s0))]) (O' := []) (by kernel_rfl) trivial (by kernel_rfl) (by kernel_rfl) ?_
  refine seqQ_norm ?_
  refine Wp.seqN (by kernel_rfl) ?_
  refine Wp.seqN (by kernel_rfl) ?_
  refine Wp.reg tiok mix hc (by kernel_rfl) (ah := none) (rs := [some (.no), some (.no)]) (kt := [0, 4]) (ko := []) (T' := [(0, .sl (List.map I s0)), (4, .nilq (List.map I s0))]) (O' := []) (by kernel_rfl) trivial (by kernel_rfl) (by kernel_rfl) ?_
  refine seqQ_norm ?_
  refine Wp.condNil (xs := List.map I s0) (by kernel_rfl) (by kernel_rfl) (fun hn => ?_) ?_
  · replace hn := List.map_eq_nil_iff.1 hn
    replace h : (some []) = some r := by rw [hn] at h; simpa [fits, chk] using h
    refine Wp.seqN (by kernel_rfl) ?_
    refine Wp.reg tiok mix hc (by kernel_rfl) (ah := none) (rs := [some (.no)]) (kt := [2]) (ko := []) (T' := [(2, .nils)]) (O' := []) (by kernel_rfl) trivial (by kernel_rfl) (by kernel_rfl) ?_
    refine seqQ_norm ?_
    refine Wp.retN (by kernel_rfl) ?_
    refine seqQ_ret ?_
    obtain rfl := Option.some.inj h
    exact RetQ.ret (fl := [true]) (by kernel_rfl)
  · refine Wp.skipN (by kernel_rfl) ?_
    refine seqQ_norm ?_
    refine Wp.seqN (by kernel_rfl) ?_
    obtain ⟨_, hk_3_2, h⟩ := bsome h
    refine Wp.reg tiok mix hc (by kernel_rfl) (ah := none) (rs := [some (.mk 1 true), some (.no), some (.eqv (.mk 2 true) ⟨[(7, .rs 2)], [(2, some (.arr (List.map I s0))), (1, none)], [2]⟩), some (.no)]) (kt := [2]) (ko := [2]) (T' := [(2, .rs 2)]) (O' := [(2, .arr (List.map I s0))]) (by kernel_rfl) (And.intro (congrArg (fun z => (⟨[(7, .rs 2)], [(2, some (.arr z)), (1, none)], [2]⟩ : Wr)) (List.nil_append _ : [] ++ (List.map I s0) = List.map I s0)) (And.intro (app_ob (enc1 := I) (enc2 := I) (e1 := []) (e2 := s0) (sz := 1) ek_I ek_I hk_3_2) trivial)) (by kernel_rfl) (by kernel_rfl) ?_
    refine seqQ_norm ?_
    refine Wp.retN (by kernel_rfl) ?_
    obtain rfl := Option.some.inj h
    exact RetQ.ret (fl := [true]) (by kernel_rfl)
def impl_defaultOf (ty0 : (List Int)) : Option (GTerm) :=
    (idx ty0 0) >>= fun e_1_1 =>
    (impl_shape e_1_1) >>= fun (r_1_3_0, r_1_3_1) =>
    (impl_parts ty0) >>= fun r_2_1 =>
    if (r_1_3_0 == 1) = true then
      (idx r_2_1 0) >>= fun e_5_1 =>
      (impl_defaultOf e_5_1) >>= fun r_5_3 =>
      (idx r_2_1 1) >>= fun e_5_5 =>
      (impl_defaultOf e_5_5) >>= fun r_5_7 =>
      some (GTerm.mk 4 0 [] [r_5_3, r_5_7])
    else
      if (r_1_3_0 == 2) = true then
        (idx r_2_1 1) >>= fun e_7_1 =>
        (slices_Clone_int e_7_1) >>= fun r_7_3 =>
        (idx r_2_1 0) >>= fun e_7_5 =>
        (impl_defaultOf e_7_5) >>= fun r_7_7 =>
        some (GTerm.mk 6 0 r_7_3 [r_7_7])
      else
        if (r_1_3_0 == 3) = true then
          (idx r_2_1 0) >>= fun e_9_2 =>
          (slices_Clone_int e_9_2) >>= fun r_9_4 =>
          (idx r_2_1 1) >>= fun e_9_6 =>
          (impl_defaultOf e_9_6) >>= fun r_9_8 =>
          some (GTerm.mk 9 r_1_3_1 r_9_4 [r_9_8])
        else
          if (r_1_3_0 == 4) = true then
            (idx r_2_1 0) >>= fun e_11_2 =>
            (impl_defaultOf e_11_2) >>= fun r_11_4 =>
            some (GTerm.mk 11 r_1_3_1 [] [r_11_4])
          else
            some (GTerm.mk 1 0 [] [])
  partial_fixpoint
def M_impl_defaultOf (ty0 : (List Int)) (r : GTerm) : Prop :=
  FnSound Try.prog 48 [.sl (List.map I ty0)] (.agg [.int .i64 r.fOp, .int .i64 r.fN, .osl (List.map I r.fType), .osl (List.map GTerm_O r.fKids)]) []
theorem impl_defaultOf_s : ∀ p r, impl_defaultOf p = some r → M_impl_defaultOf p r := by
  refine impl_defaultOf.partial_correctness M_impl_defaultOf ?_
  rintro impl_defaultOf_f impl_defaultOf_ih ty0 r h
  show FnSound Try.prog 48 [.sl (List.map I ty0)] (.agg [.int .i64 r.fOp, .int .i64 r.fN, .osl (List.map I r.fType), .osl (List.map GTerm_O r.fKids)]) []
  refine FnSound.body0 tiok (fn := Try.f48) (code := B48) (by kernel_rfl) (by kernel_rfl) (by kernel_rfl) (by kernel_rfl) (nt := 63) (by kernel_rfl) (by kernel_rfl) (T := [(0, .sl (List.map I ty0))]) (O := []) (by kernel_rfl) (by kernel_rfl) (fun c hc => ?_)
  refine Wp.seqN (by kernel_rfl) ?_
  refine Wp.reg tiok mix hc (by kernel_rfl) (ah := none) (rs := [some (.new 1)]) (kt := [0, 2]) (ko := [1]) (T' := [(0, .sl (List.map I ty0)), (2, .ra 1 0)]) (O' := [(1, .box [.int .i64 0, .int .i64 0, .nils, .nils])]) (by kernel_rfl) trivial (by kernel_rfl) (by kernel_rfl) ?_
  refine seqQ_norm ?_
  refine Wp.seqN (by kernel_rfl) ?_
  obtain ⟨e_1_1, hi_1_1, h⟩ := bsome h
  obtain ⟨⟨r_1_3_0, r_1_3_1⟩, hr_1_3, h⟩ := bsome h
  refine Wp.reg tiok mix hc (by kernel_rfl) (ah := none) (rs := [some (.no), some (.el (.int .i64 e_1_1)), some (.no), some (.call (.tup [.int .i64 r_1_3_0, .int .i64 r_1_3_1]) [] 1), some (.no), some (.no), some (.no), some (.no), some (.no)]) (kt := [0, 2, 3, 4]) (ko := [1]) (T' := [(0, .sl (List.map I ty0)), (2, .ra 1 0), (3, .int .i64 r_1_3_0), (4, .int .i64 r_1_3_1)]) (O' := [(1, .box [.int .i64 0, .int .i64 0, .nils, .nils])]) (by kernel_rfl) (And.intro (idx_sl (enc := I) (x := .int .i64 e_1_1) hi_1_1 (eq_I e_1_1)) (And.intro (impl_shape_s _ _ hr_1_3) (And.intro bod_103 (And.intro (Or.inl rfl : ([] : List Nat) = [] ∨ noSh (.tup [.int .i64 r_1_3_0, .int .i64 r_1_3_1]) = true) trivial)))) (by kernel_rfl) (by kernel_rfl) ?_
  refine seqQ_norm ?_
  refine Wp.seqN (by kernel_rfl) ?_
  obtain ⟨r_2_1, hr_2_1, h⟩ := bsome h
  refine Wp.reg tiok mix hc (by kernel_rfl) (ah := none) (rs := [some (.no), some (.call (.osl (List.map LI_s r_2_1)) [] 2), some (.no)]) (kt := [2, 3, 4, 5]) (ko := [1, 2]) (T' := [(2, .ra 1 0), (3, .int .i64 r_1_3_0), (4, .int .i64 r_1_3_1), (5, .rs 2)]) (O' := [(1, .box [.int .i64 0, .int .i64 0, .nils, .nils]), (2, .arr (List.map LI_s r_2_1))]) (by kernel_rfl) (And.intro (impl_parts_s _ _ hr_2_1) (And.intro bod_104 (And.intro (Or.inl rfl : ([] : List Nat) = [] ∨ noSh (.osl (List.map LI_s r_2_1)) = true) trivial))) (by kernel_rfl) (by kernel_rfl) ?_
  refine seqQ_norm ?_
  refine Wp.seqN (by kernel_rfl) ?_
  refine Wp.seqN (by kernel_rfl) ?_
  refine Wp.reg tiok mix hc (by kernel_rfl) (ah := none) (rs := [some (.no)]) (kt := [2, 4, 5, 15]) (ko := [1, 2]) (T' := [(2, .ra 1 0), (4, .int .i64 r_1_3_1), (5, .rs 2), (15, .int .i64 r_1_3_0)]) (O' := [(1, .box [.int .i64 0, .int .i64 0, .nils, .nils]), (2, .arr (List.map LI_s r_2_1))]) (by kernel_rfl) trivial (by kernel_rfl) (by kernel_rfl) ?_
  refine seqQ_norm ?_
  refine Wp.blockN (i := 0) (by kernel_rfl) ?_
  refine Wp.seqN (by kernel_rfl) ?_
  refine Wp.reg tiok mix hc (by kernel_rfl) (ah := none) (rs := [some (.no), some (.no)]) (kt := [2, 4, 5, 15, 16]) (ko := [1, 2]) (T' := [(2, .ra 1 0), (4, .int .i64 r_1_3_1), (5, .rs 2), (15, .int .i64 r_1_3_0), (16, .bool (r_1_3_0 == 1))]) (O' := [(1, .box [.int .i64 0, .int .i64 0, .nils, .nils]), (2, .arr (List.map LI_s r_2_1))]) (by kernel_rfl) trivial (by kernel_rfl) (by kernel_rfl) ?_
  refine seqQ_norm ?_
  rcases itesome h with ⟨hb_1, h⟩ | ⟨hb_1, h⟩
  · refine Wp.condT (b := (r_1_3_0 == 1)) (by kernel_rfl) (by kernel_rfl) hb_1 ?_
    refine Wp.seqN (by kernel_rfl) ?_
    obtain ⟨e_5_1, hi_5_1, h⟩ := bsome h
    obtain ⟨r_5_3, hr_5_3, h⟩ := bsome h
    obtain ⟨e_5_5, hi_5_5, h⟩ := bsome h
    obtain ⟨r_5_7, hr_5_7, h⟩ := bsome h
    refine Wp.reg tiok mix hc (by kernel_rfl) (ah := (some [[], [0], [0, 1], [0, 1, 2], [], [4], [4, 5], [0, 1, 2, 3, 4, 5, 6], [0, 1, 2, 3, 4, 5, 6, 7], [0, 1, 2, 3, 4, 5, 6, 7, 8], [0, 1, 2, 3, 4, 5, 6, 7, 8, 9]])) (rs := [some (.no), some (.no), some (.el (.sl (List.map I e_5_1))), some (.call (.agg [.int .i64 r_5_3.fOp, .int .i64 r_5_3.fN, .osl (List.map I r_5_3.fType), .osl (List.map GTerm_O r_5_3.fKids)]) [] 3), some (.no), some (.no), some (.el (.sl (List.map I e_5_5))), some (.call (.agg [.int .i64 r_5_7.fOp, .int .i64 r_5_7.fN, .osl (List.map I r_5_7.fType), .osl (List.map GTerm_O r_5_7.fKids)]) [] 5), some (.eqv (.mk 7 true) ⟨[(26, .rs 7)], [(7, some (.arr (List.map GTerm_O [r_5_3, r_5_7]))), (3, none), (4, none), (5, none), (6, none)], [7]⟩), some (.no), some (.no)]) (kt := [2]) (ko := [1, 7]) (T' := [(2, .ra 1 0)]) (O' := [(1, .box [.int .i64 4, .int .i64 0, .nils, .rs 7]), (7, .arr (List.map GTerm_O [r_5_3, r_5_7]))]) (by kernel_rfl) (And.intro (idx_own (enc := LI_s) hi_5_1) (And.intro (idx_sl (enc := LI_s) (x := .sl (List.map I e_5_1)) hi_5_1 (eq_LI_s e_5_1)).2 (And.intro (impl_defaultOf_ih _ _ hr_5_3) (And.intro bod_48 (And.intro (Or.inl rfl : ([] : List Nat) = [] ∨ noSh (.agg [.int .i64 r_5_3.fOp, .int .i64 r_5_3.fN, .osl (List.map I r_5_3.fType), .osl (List.map GTerm_O r_5_3.fKids)]) = true) (And.intro (idx_own (enc := LI_s) hi_5_5) (And.intro (idx_sl (enc := LI_s) (x := .sl (List.map I e_5_5)) hi_5_5 (eq_LI_s e_5_5)).2 (And.intro (impl_defaultOf_ih _ _ hr_5_7) (And.intro bod_48 (And.intro (Or.inl rfl : ([] : List Nat) = [] ∨ noSh (.agg [.int .i64 r_5_7.fOp, .int .i64 r_5_7.fN, .osl (List.map I r_5_7.fType), .osl (List.map GTerm_O r_5_7.fKids)]) = true) (And.intro (congrArg (fun z => (⟨[(26, .rs 7)], [(7, some (.arr z)), (3, none), (4, none), (5, none), (6, none)], [7]⟩ : Wr)) ((rows1 (eq_GTerm_O r_5_3) (rows1 (eq_GTerm_O r_5_7) rows0)) : [AV.agg [.int .i64 r_5_3.fOp, .int .i64 r_5_3.fN, AV.osl (List.map I r_5_3.fType), AV.osl (List.map GTerm_O r_5_3.fKids)], AV.agg [.int .i64 r_5_7.fOp, .int .i64 r_5_7.fN, AV.osl (List.map I r_5_7.fType), AV.osl (List.map GTerm_O r_5_7.fKids)]] = List.map GTerm_O [r_5_3, r_5_7])) trivial))))))))))) (by kernel_rfl) (by kernel_rfl) ?_
    refine seqQ_norm ?_
    refine Wp.retN (by kernel_rfl) ?_
    refine blockQ_ret ?_
    refine seqQ_ret ?_
    obtain rfl := Option.some.inj h
    exact RetQ.ret (fl := [true]) (by kernel_rfl)
  · refine Wp.condF (b := (r_1_3_0 == 1)) (by kernel_rfl) (by kernel_rfl) hb_1 ?_
    refine Wp.seqN (by kernel_rfl) ?_
    refine Wp.reg tiok mix hc (by kernel_rfl) (ah := none) (rs := [some (.no), some (.no)]) (kt := [2, 4, 5, 15, 28]) (ko := [1, 2]) (T' := [(2, .ra 1 0), (4, .int .i64 r_1_3_1), (5, .rs 2), (15, .int .i64 r_1_3_0), (28, .bool (r_1_3_0 == 2))]) (O' := [(1, .box [.int .i64 0, .int .i64 0, .nils, .nils]), (2, .arr (List.map LI_s r_2_1))]) (by kernel_rfl) trivial (by kernel_rfl) (by kernel_rfl) ?_
    refine seqQ_norm ?_
    rcases itesome h with ⟨hb_2, h⟩ | ⟨hb_2, h⟩
    · refine Wp.condT (b := (r_1_3_0 == 2)) (by kernel_rfl) (by kernel_rfl) hb_2 ?_
      refine Wp.seqN (by kernel_rfl) ?_
      obtain ⟨e_7_1, hi_7_1, h⟩ := bsome h
      obtain ⟨r_7_3, hr_7_3, h⟩ := bsome h
      obtain ⟨e_7_5, hi_7_5, h⟩ := bsome h
      obtain ⟨r_7_7, hr_7_7, h⟩ := bsome h
      refine Wp.reg tiok mix hc (by kernel_rfl) (ah := (some [[], [0], [0, 1], [0, 1, 2], [], [4], [4, 5], [0, 1, 2, 3, 4, 5, 6], [0, 1, 2, 3, 4, 5, 6, 7], [0, 1, 2, 3, 4, 5, 6, 7, 8], [0, 1, 2, 3, 4, 5, 6, 7, 8, 9]])) (rs := [some (.no), some (.no), some (.el (.sl (List.map I e_7_1))), some (.call (.osl (List.map I r_7_3)) [] 8), some (.no), some (.no), some (.el (.sl (List.map I e_7_5))), some (.call (.agg [.int .i64 r_7_7.fOp, .int .i64 r_7_7.fN, .osl (List.map I r_7_7.fType), .osl (List.map GTerm_O r_7_7.fKids)]) [] 9), some (.eqv (.mk 11 true) ⟨[(38, .rs 11)], [(11, some (.arr (List.map GTerm_O [r_7_7]))), (9, none), (10, none)], [11]⟩), some (.no), some (.no)]) (kt := [2]) (ko := [1, 8, 11]) (T' := [(2, .ra 1 0)]) (O' := [(1, .box [.int .i64 6, .int .i64 0, .rs 8, .rs 11]), (8, .arr (List.map I r_7_3)), (11, .arr (List.map GTerm_O [r_7_7]))]) (by kernel_rfl) (And.intro (idx_own (enc := LI_s) hi_7_1) (And.intro (idx_sl (enc := LI_s) (x := .sl (List.map I e_7_1)) hi_7_1 (eq_LI_s e_7_1)).2 (And.intro (slices_Clone_int_s _ _ hr_7_3) (And.intro bod_105 (And.intro (Or.inl rfl : ([] : List Nat) = [] ∨ noSh (.osl (List.map I r_7_3)) = true) (And.intro (idx_own (enc := LI_s) hi_7_5) (And.intro (idx_sl (enc := LI_s) (x := .sl (List.map I e_7_5)) hi_7_5 (eq_LI_s e_7_5)).2 (And.intro (impl_defaultOf_ih _ _ hr_7_7) (And.intro bod_48 (And.intro (Or.inl rfl : ([] : List Nat) = [] ∨ noSh (.agg [.int .i64 r_7_7.fOp, .int .i64 r_7_7.fN, .osl (List.map I r_7_7.fType), .osl (List.map GTerm_O r_7_7.fKids)]) = true) (And.intro (congrArg (fun z => (⟨[(38, .rs 11)], [(11, some (.arr z)), (9, none), (10, none)], [11]⟩ : Wr)) ((rows1 (eq_GTerm_O r_7_7) rows0) : [AV.agg [.int .i64 r_7_7.fOp, .int .i64 r_7_7.fN, AV.osl (List.map I r_7_7.fType), AV.osl (List.map GTerm_O r_7_7.fKids)]] = List.map GTerm_O [r_7_7])) trivial))))))))))) (by kernel_rfl) (by kernel_rfl) ?_
      refine seqQ_norm ?_
      refine Wp.retN (by kernel_rfl) ?_
      refine blockQ_ret ?_
      refine seqQ_ret ?_
      obtain rfl := Option.some.inj h
      exact RetQ.ret (fl := [true]) (by kernel_rfl)
    · refine Wp.condF (b := (r_1_3_0 == 2)) (by kernel_rfl) (by kernel_rfl) hb_2 ?_
      refine Wp.seqN (by kernel_rfl) ?_
      refine Wp.reg tiok mix hc (by kernel_rfl) (ah := none) (rs := [some (.no), some (.no)]) (kt := [2, 4, 5, 15, 40]) (ko := [1, 2]) (T' := [(2, .ra 1 0), (4, .int .i64 r_1_3_1), (5, .rs 2), (15, .int .i64 r_1_3_0), (40, .bool (r_1_3_0 == 3))]) (O' := [(1, .box [.int .i64 0, .int .i64 0, .nils, .nils]), (2, .arr (List.map LI_s r_2_1))]) (by kernel_rfl) trivial (by kernel_rfl) (by kernel_rfl) ?_
      refine seqQ_norm ?_
      rcases itesome h with ⟨hb_3, h⟩ | ⟨hb_3, h⟩
      · refine Wp.condT (b := (r_1_3_0 == 3)) (by kernel_rfl) (by kernel_rfl) hb_3 ?_
        refine Wp.seqN (by kernel_rfl) ?_
        obtain ⟨e_9_2, hi_9_2, h⟩ := bsome h
        obtain ⟨r_9_4, hr_9_4, h⟩ := bsome h
        obtain ⟨e_9_6, hi_9_6, h⟩ := bsome h
        obtain ⟨r_9_8, hr_9_8, h⟩ := bsome h
        refine Wp.reg tiok mix hc (by kernel_rfl) (ah := (some [[], [], [1], [1, 2], [1, 2, 3], [], [5], [5, 6], [1, 2, 3, 4, 5, 6, 7], [1, 2, 3, 4, 5, 6, 7, 8], [0, 1, 2, 3, 4, 5, 6, 7, 8, 9], [0, 1, 2, 3, 4, 5, 6, 7, 8, 9, 10]])) (rs := [some (.no), some (.no), some (.no), some (.el (.sl (List.map I e_9_2))), some (.call (.osl (List.map I r_9_4)) [] 12), some (.no), some (.no), some (.el (.sl (List.map I e_9_6))), some (.call (.agg [.int .i64 r_9_8.fOp, .int .i64 r_9_8.fN, .osl (List.map I r_9_8.fType), .osl (List.map GTerm_O r_9_8.fKids)]) [] 13), some (.eqv (.mk 15 true) ⟨[(51, .rs 15)], [(15, some (.arr (List.map GTerm_O [r_9_8]))), (13, none), (14, none)], [15]⟩), some (.no), some (.no)]) (kt := [2]) (ko := [1, 12, 15]) (T' := [(2, .ra 1 0)]) (O' := [(1, .box [.int .i64 9, .int .i64 r_1_3_1, .rs 12, .rs 15]), (12, .arr (List.map I r_9_4)), (15, .arr (List.map GTerm_O [r_9_8]))]) (by kernel_rfl) (And.intro (idx_own (enc := LI_s) hi_9_2) (And.intro (idx_sl (enc := LI_s) (x := .sl (List.map I e_9_2)) hi_9_2 (eq_LI_s e_9_2)).2 (And.intro (slices_Clone_int_s _ _ hr_9_4) (And.intro bod_105 (And.intro (Or.inl rfl : ([] : List Nat) = [] ∨ noSh (.osl (List.map I r_9_4)) = true) (And.intro (idx_own (enc := LI_s) hi_9_6) (And.intro (idx_sl (enc := LI_s) (x := .sl (List.map I e_9_6)) hi_9_6 (eq_LI_s e_9_6)).2 (And.intro (impl_defaultOf_ih _ _ hr_9_8) (And.intro bod_48 (And.intro (Or.inl rfl : ([] : List Nat) = [] ∨ noSh (.agg [.int .i64 r_9_8.fOp, .int .i64 r_9_8.fN, .osl (List.map I r_9_8.fType), .osl (List.map GTerm_O r_9_8.fKids)]) = true) (And.intro (congrArg (fun z => (⟨[(51, .rs 15)], [(15, some (.arr z)), (13, none), (14, none)], [15]⟩ : Wr)) ((rows1 (eq_GTerm_O r_9_8) rows0) : [AV.agg [.int .i64 r_9_8.fOp, .int .i64 r_9_8.fN, AV.osl (List.map I r_9_8.fType), AV.osl (List.map GTerm_O r_9_8.fKids)]] = List.map GTerm_O [r_9_8])) trivial))))))))))) (by kernel_rfl) (by kernel_rfl) ?_
        refine seqQ_norm ?_
        refine Wp.retN (by kernel_rfl) ?_
        refine blockQ_ret ?_
        refine seqQ_ret ?_
        obtain rfl := Option.some.inj h
        exact RetQ.ret (fl := [true]) (by kernel_rfl)
      · refine Wp.condF (b := (r_1_3_0 == 3)) (by kernel_rfl) (by kernel_rfl) hb_3 ?_
        refine Wp.seqN (by kernel_rfl) ?_
        refine Wp.reg tiok mix hc (by kernel_rfl) (ah := none) (rs := [some (.no), some (.no)]) (kt := [2, 4, 5, 53]) (ko := [1, 2]) (T' := [(2, .ra 1 0), (4, .int .i64 r_1_3_1), (5, .rs 2), (53, .bool (r_1_3_0 == 4))]) (O' := [(1, .box [.int .i64 0, .int .i64 0, .nils, .nils]), (2, .arr (List.map LI_s r_2_1))]) (by kernel_rfl) trivial (by kernel_rfl) (by kernel_rfl) ?_
        refine seqQ_norm ?_
        rcases itesome h with ⟨hb_4, h⟩ | ⟨hb_4, h⟩
        · refine Wp.condT (b := (r_1_3_0 == 4)) (by kernel_rfl) (by kernel_rfl) hb_4 ?_
          refine Wp.seqN (by kernel_rfl) ?_
          obtain ⟨e_11_2, hi_11_2, h⟩ := bsome h
          obtain ⟨r_11_4, hr_11_4, h⟩ := bsome h
          refine Wp.reg tiok mix hc (by kernel_rfl) (ah := none) (rs := [some (.no), some (.no), some (.no), some (.el (.sl (List.map I e_11_2))), some (.call (.agg [.int .i64 r_11_4.fOp, .int .i64 r_11_4.fN, .osl (List.map I r_11_4.fType), .osl (List.map GTerm_O r_11_4.fKids)]) [] 16), some (.eqv (.mk 18 true) ⟨[(60, .rs 18)], [(18, some (.arr (List.map GTerm_O [r_11_4]))), (16, none), (17, none)], [18]⟩), some (.no), some (.no)]) (kt := [2]) (ko := [1, 18]) (T' := [(2, .ra 1 0)]) (O' := [(1, .box [.int .i64 11, .int .i64 r_1_3_1, .nils, .rs 18]), (18, .arr (List.map GTerm_O [r_11_4]))]) (by kernel_rfl) (And.intro (idx_own (enc := LI_s) hi_11_2) (And.intro (idx_sl (enc := LI_s) (x := .sl (List.map I e_11_2)) hi_11_2 (eq_LI_s e_11_2)).2 (And.intro (impl_defaultOf_ih _ _ hr_11_4) (And.intro bod_48 (And.intro (Or.inl rfl : ([] : List Nat) = [] ∨ noSh (.agg [.int .i64 r_11_4.fOp, .int .i64 r_11_4.fN, .osl (List.map I r_11_4.fType), .osl (List.map GTerm_O r_11_4.fKids)]) = true) (And.intro (congrArg (fun z => (⟨[(60, .rs 18)], [(18, some (.arr z)), (16, none), (17, none)], [18]⟩ : Wr)) ((rows1 (eq_GTerm_O r_11_4) rows0) : [AV.agg [.int .i64 r_11_4.fOp, .int .i64 r_11_4.fN, AV.osl (List.map I r_11_4.fType), AV.osl (List.map GTerm_O r_11_4.fKids)]] = List.map GTerm_O [r_11_4])) trivial)))))) (by kernel_rfl) (by kernel_rfl) ?_
          refine seqQ_norm ?_
          refine Wp.retN (by kernel_rfl) ?_
          refine blockQ_ret ?_
          refine seqQ_ret ?_
          obtain rfl := Option.some.inj h
          exact RetQ.ret (fl := [true]) (by kernel_rfl)
        · refine Wp.condF (b := (r_1_3_0 == 4)) (by kernel_rfl) (by kernel_rfl) hb_4 ?_
          refine Wp.skipN (by kernel_rfl) ?_
          refine blockQ_norm ?_
          refine seqQ_norm ?_
          refine Wp.seqN (by kernel_rfl) ?_
          refine Wp.reg tiok mix hc (by kernel_rfl) (ah := none) (rs := [some (.no), some (.no)]) (kt := [2]) (ko := [1]) (T' := [(2, .ra 1 0)]) (O' := [(1, .box [.int .i64 1, .int .i64 0, .nils, .nils])]) (by kernel_rfl) trivial (by kernel_rfl) (by kernel_rfl) ?_
          refine seqQ_norm ?_
          refine Wp.retN (by kernel_rfl) ?_
          obtain rfl := Option.some.inj h
          exact RetQ.ret (fl := [true]) (by kernel_rfl)
def impl_DefaultTerm (p : GSystem × (List Int)) : Option (GTerm × Bool) :=
  match p with
  | (s0, ty1) =>
    (impl_IsType (s0, ty1)) >>= fun r_1_2 =>
    if r_1_2 = true then
      (impl_defaultOf ty1) >>= fun r_3_1 =>
      some (r_3_1, true)
    else
      some ((GTerm.mk 0 0 [] []), false)
def M_impl_DefaultTerm (p : GSystem × (List Int)) (r : GTerm × Bool) : Prop :=
  match p with
  | (s0, ty1) => FnSound Try.prog 15 [.agg [.int .i64 s0.fSize, .sl (List.map I s0.fPlus), .sl (List.map I s0.fTimes), .sl (List.map AV.bool s0.fBelow)], .sl (List.map I ty1)] (.tup [.agg [.int .i64 r.1.fOp, .int .i64 r.1.fN, .osl (List.map I r.1.fType), .osl (List.map GTerm_O r.1.fKids)], .bool r.2]) []
theorem impl_DefaultTerm_s : ∀ p r, impl_DefaultTerm p = some r → M_impl_DefaultTerm p r := by
  rintro ⟨s0, ty1⟩ r h
  unfold impl_DefaultTerm at h
  show FnSound Try.prog 15 [.agg [.int .i64 s0.fSize, .sl (List.map I s0.fPlus), .sl (List.map I s0.fTimes), .sl (List.map AV.bool s0.fBelow)], .sl (List.map I ty1)] (.tup [.agg [.int .i64 r.1.fOp, .int .i64 r.1.fN, .osl (List.map I r.1.fType), .osl (List.map GTerm_O r.1.fKids)], .bool r.2]) []
  refine FnSound.body0 tiok (fn := Try.f15) (code := B15) (by kernel_rfl) (by kernel_rfl) (by kernel_rfl) (by kernel_rfl) (nt := 13) (by kernel_rfl) (by kernel_rfl) (T := [(0, .agg [.int .i64 s0.fSize, .sl (List.map I s0.fPlus), .sl (List.map I s0.fTimes), .sl (List.map AV.bool s0.fBelow)]), (1, .sl (List.map I ty1))]) (O := []) (by kernel_rfl) (by kernel_rfl) (fun c hc => ?_)
  refine Wp.seqN (by kernel_rfl) ?_
  refine Wp.reg tiok mix hc (by kernel_rfl) (ah := none) (rs := [some (.new 1), some (.new 2), some (.no)]) (kt := [1, 2, 4]) (ko := [1, 2]) (T' := [(1, .sl (List.map I ty1)), (2, .ra 1 0), (4, .ra 2 0)]) (O' := [(1, .box [.int .i64 s0.fSize, .sl (List.map I s0.fPlus), .sl (List.map I s0.fTimes), .sl (List.map AV.bool s0.fBelow)]), (2, .box [.int .i64 0, .int .i64 0, .nils, .nils])]) (by kernel_rfl) trivial (by kernel_rfl) (by kernel_rfl) ?_
  refine seqQ_norm ?_
  refine Wp.seqN (by kernel_rfl) ?_
  refine Wp.seqN (by kernel_rfl) ?_
  obtain ⟨r_1_2, hr_1_2, h⟩ := bsome h
  refine Wp.reg tiok mix hc (by kernel_rfl) (ah := none) (rs := [some (.no), some (.no), some (.call (.bool r_1_2) [] 1), some (.no)]) (kt := [1, 4, 9]) (ko := [2]) (T' := [(1, .sl (List.map I ty1)), (4, .ra 2 0), (9, .bool (!r_1_2))]) (O' := [(2, .box [.int .i64 0, .int .i64 0, .nils, .nils])]) (by kernel_rfl) (And.intro (impl_IsType_s _ _ hr_1_2) (And.intro bod_47 (And.intro (Or.inl rfl : ([] : List Nat) = [] ∨ noSh (.bool r_1_2) = true) trivial))) (by kernel_rfl) (by kernel_rfl) ?_
  refine seqQ_norm ?_
  rcases itesome h with ⟨hb_1, h⟩ | ⟨hb_1, h⟩
  · refine Wp.condF (b := (!r_1_2)) (by kernel_rfl) (by kernel_rfl) (nF hb_1) ?_
    refine Wp.skipN (by kernel_rfl) ?_
    refine seqQ_norm ?_
    refine Wp.seqN (by kernel_rfl) ?_
    obtain ⟨r_3_1, hr_3_1, h⟩ := bsome h
    refine Wp.reg tiok mix hc (by kernel_rfl) (ah := none) (rs := [some (.no), some (.call (.agg [.int .i64 r_3_1.fOp, .int .i64 r_3_1.fN, .osl (List.map I r_3_1.fType), .osl (List.map GTerm_O r_3_1.fKids)]) [] 3), some (.no), some (.no)]) (kt := [4, 5]) (ko := [2, 3, 4]) (T' := [(4, .ra 2 0), (5, .bool true)]) (O' := [(2, .box [.int .i64 r_3_1.fOp, .int .i64 r_3_1.fN, .rs 3, .rs 4]), (3, .arr (List.map I r_3_1.fType)), (4, .arr (List.map GTerm_O r_3_1.fKids))]) (by kernel_rfl) (And.intro (impl_defaultOf_s _ _ hr_3_1) (And.intro bod_48 (And.intro (Or.inl rfl : ([] : List Nat) = [] ∨ noSh (.agg [.int .i64 r_3_1.fOp, .int .i64 r_3_1.fN, .osl (List.map I r_3_1.fType), .osl (List.map GTerm_O r_3_1.fKids)]) = true) trivial))) (by kernel_rfl) (by kernel_rfl) ?_
    refine seqQ_norm ?_
    refine Wp.retN (by kernel_rfl) ?_
    obtain rfl := Option.some.inj h
    exact RetQ.ret (fl := [true, true]) (by kernel_rfl)
  · refine Wp.condT (b := (!r_1_2)) (by kernel_rfl) (by kernel_rfl) (nT hb_1) ?_
    refine Wp.seqN (by kernel_rfl) ?_
    refine Wp.reg tiok mix hc (by kernel_rfl) (ah := none) (rs := [some (.no), some (.no), some (.no)]) (kt := [4, 5]) (ko := [2]) (T' := [(4, .ra 2 0), (5, .bool false)]) (O' := [(2, .box [.int .i64 0, .int .i64 0, .nils, .nils])]) (by kernel_rfl) trivial (by kernel_rfl) (by kernel_rfl) ?_
    refine seqQ_norm ?_
    refine Wp.retN (by kernel_rfl) ?_
    refine seqQ_ret ?_
    obtain rfl := Option.some.inj h
    exact RetQ.ret (fl := [true, true]) (by kernel_rfl)
def laws_eqIntS_F1 (c : Ctx) : (Unit) ⊕ (Bool) → Exit → AState → Prop
  | .inl _ => Into c (.exit 0) (mkS [] [])
  | .inr r => RetE TIx Try.f18 [] (.bool r)
def laws_eqIntS_l0 (p : (List Int) × (List Int) × Int) : Option ((Unit) ⊕ (Bool)) :=
  match p with
  | (a0, b1, i_4) =>
    if (decide (i_4 < (a0.length : Int))) = true then
      (idx a0 i_4) >>= fun e_6_2 =>
      (idx b1 i_4) >>= fun e_6_6 =>
      if (e_6_2 != e_6_6) = true then
        some (.inr false)
      else
        laws_eqIntS_l0 (a0, b1, (wr (i_4 + 1)))
    else
      some (.inl ())
  partial_fixpoint
def M_laws_eqIntS_l0 (p : (List Int) × (List Int) × Int) (fl : (Unit) ⊕ (Bool)) : Prop :=
  match p with
  | (a0, b1, i_4) => ∀ c : Ctx, c.nt = 26 → WpL Try.prog c (cl (cl (cr (cl (cr (cr B18)))))) (laws_eqIntS_F1 c fl) (mkS [(0, .sl (List.map I a0)), (1, .sl (List.map I b1)), (5, .int .i64 i_4)] [])
theorem laws_eqIntS_l0_s : ∀ p r, laws_eqIntS_l0 p = some r → M_laws_eqIntS_l0 p r := by
  refine laws_eqIntS_l0.partial_correctness M_laws_eqIntS_l0 ?_
  rintro laws_eqIntS_l0_f laws_eqIntS_l0_ih ⟨a0, b1, i_4⟩ r h
  intro c hc
  show WpL Try.prog c (cl (cl (cr (cl (cr (cr B18)))))) (laws_eqIntS_F1 c r) (mkS [(0, .sl (List.map I a0)), (1, .sl (List.map I b1)), (5, .int .i64 i_4)] [])
  refine WpL.step ?_
  refine Wp.seqN (by kernel_rfl) ?_
  refine Wp.seqN (by kernel_rfl) ?_
  refine Wp.reg tiok mix hc (by kernel_rfl) (ah := none) (rs := [some (.no), some (.no), some (.eqv (.no) ⟨[(13, .int .i64 (a0.length : Int))], [], []⟩), some (.no)]) (kt := [0, 1, 5, 14]) (ko := []) (T' := [(0, .sl (List.map I a0)), (1, .sl (List.map I b1)), (5, .int .i64 i_4), (14, .bool (decide (i_4 < (a0.length : Int))))]) (O' := []) (by kernel_rfl) (And.intro (lenT (d := 13) I a0) trivial) (by kernel_rfl) (by kernel_rfl) ?_
  refine seqQ_norm ?_
  rcases itesome h with ⟨hb_5, h⟩ | ⟨hb_5, h⟩
  · refine Wp.condT (b := (decide (i_4 < (a0.length : Int)))) (by kernel_rfl) (by kernel_rfl) hb_5 ?_
    refine Wp.skipN (by kernel_rfl) ?_
    refine seqQ_norm ?_
    refine Wp.seqN (by kernel_rfl) ?_
    refine Wp.blockN (i := 1) (by kernel_rfl) ?_
    refine Wp.seqN (by kernel_rfl) ?_
    obtain ⟨e_6_2, hi_6_2, h⟩ := bsome h
    obtain ⟨e_6_6, hi_6_6, h⟩ := bsome h
    refine Wp.reg tiok mix hc (by kernel_rfl) (ah := (some [[], [], [0, 1], [0, 1, 2], [], [], [4, 5], [4, 5, 6], [0, 1, 2, 3, 4, 5, 6, 7]])) (rs := [some (.no), some (.no), some (.el (.int .i64 e_6_2)), some (.no), some (.no), some (.no), some (.el (.int .i64 e_6_6)), some (.no), some (.no)]) (kt := [0, 1, 5, 25]) (ko := []) (T' := [(0, .sl (List.map I a0)), (1, .sl (List.map I b1)), (5, .int .i64 i_4), (25, .bool (e_6_2 != e_6_6))]) (O' := []) (by kernel_rfl) (And.intro (idx_sl (enc := I) (x := .int .i64 e_6_2) hi_6_2 (eq_I e_6_2)) (And.intro (idx_sl (enc := I) (x := .int .i64 e_6_6) hi_6_6 (eq_I e_6_6)) trivial)) (by kernel_rfl) (by kernel_rfl) ?_
    refine seqQ_norm ?_
    rcases itesome h with ⟨hb_6, h⟩ | ⟨hb_6, h⟩
    · refine Wp.condT (b := (e_6_2 != e_6_6)) (by kernel_rfl) (by kernel_rfl) hb_6 ?_
      refine Wp.seqN (by kernel_rfl) ?_
      refine Wp.reg tiok mix hc (by kernel_rfl) (ah := none) (rs := [some (.no)]) (kt := [4]) (ko := []) (T' := [(4, .bool false)]) (O' := []) (by kernel_rfl) trivial (by kernel_rfl) (by kernel_rfl) ?_
      refine seqQ_norm ?_
      refine Wp.retN (by kernel_rfl) ?_
      refine blockQ_ret ?_
      refine seqQ_ret ?_
      refine loopQ_ret ?_
      obtain rfl := Option.some.inj h
      exact RetE.ret (fl := [true]) (by kernel_rfl)
    · refine Wp.condF (b := (e_6_2 != e_6_6)) (by kernel_rfl) (by kernel_rfl) hb_6 ?_
      refine Wp.skipN (by kernel_rfl) ?_
      refine blockQ_norm ?_
      refine seqQ_norm ?_
      refine Wp.reg tiok mix hc (by kernel_rfl) (ah := none) (rs := [some (.no), some (.no), some (.no)]) (kt := [0, 1, 5]) (ko := []) (T' := [(0, .sl (List.map I a0)), (1, .sl (List.map I b1)), (5, .int .i64 (wr (i_4 + 1)))]) (O' := []) (by kernel_rfl) trivial (by kernel_rfl) (by kernel_rfl) ?_
      refine loopQ_norm ?_
      exact (laws_eqIntS_l0_ih _ _ h c hc)
  · refine Wp.condF (b := (decide (i_4 < (a0.length : Int)))) (by kernel_rfl) (by kernel_rfl) hb_5 ?_
    refine Wp.exitN (i := 0) (by kernel_rfl) ?_
    refine seqQ_exit ?_
    refine loopQ_exit ?_
    obtain rfl := Option.some.inj h
    exact Into.view (fun a w hv => SRx.renL [] hv (by kernel_rfl) (by kernel_rfl) (by kernel_rfl))
def laws_eqIntS (p : (List Int) × (List Int)) : Option (Bool) :=
  match p with
  | (a0, b1) =>
    if ((a0.length : Int) != (b1.length : Int)) = true then
      some false
    else
      (laws_eqIntS_l0 (a0, b1, 0)) >>= fun fl => match fl with
      | .inl () =>
        some true
      | .inr r =>
        some r
def M_laws_eqIntS (p : (List Int) × (List Int)) (r : Bool) : Prop :=
  match p with
  | (a0, b1) => FnSound Try.prog 18 [.sl (List.map I a0), .sl (List.map I b1)] (.bool r) []
theorem laws_eqIntS_s : ∀ p r, laws_eqIntS p = some r → M_laws_eqIntS p r := by
  rintro ⟨a0, b1⟩ r h
  unfold laws_eqIntS at h
  show FnSound Try.prog 18 [.sl (List.map I a0), .sl (List.map I b1)] (.bool r) []
  refine FnSound.body0 tiok (fn := Try.f18) (code := B18) (by kernel_rfl) (by kernel_rfl) (by kernel_rfl) (by kernel_rfl) (nt := 26) (by kernel_rfl) (by kernel_rfl) (T := [(0, .sl (List.map I a0)), (1, .sl (List.map I b1))]) (O := []) (by kernel_rfl) (by kernel_rfl) (fun c hc => ?_)
  refine Wp.seqN (by kernel_rfl) ?_
  refine Wp.reg tiok mix hc (by kernel_rfl) (ah := none) (rs := [some (.no)]) (kt := [0, 1]) (ko := []) (T' := [(0, .sl (List.map I a0)), (1, .sl (List.map I b1))]) (O' := []) (by kernel_rfl) trivial (by kernel_rfl) (by kernel_rfl) ?_
  refine seqQ_norm ?_
  refine Wp.seqN (by kernel_rfl) ?_
  refine Wp.seqN (by kernel_rfl) ?_
  refine Wp.reg tiok mix hc (by kernel_rfl) (ah := none) (rs := [some (.no), some (.eqv (.no) ⟨[(7, .int .i64 (a0.length : Int))], [], []⟩), some (.no), some (.eqv (.no) ⟨[(9, .int .i64 (b1.length : Int))], [], []⟩), some (.no)]) (kt := [0, 1, 10]) (ko := []) (T' := [(0, .sl (List.map I a0)), (1, .sl (List.map I b1)), (10, .bool ((a0.length : Int) != (b1.length : Int)))]) (O' := []) (by kernel_rfl) (And.intro (lenT (d := 7) I a0) (And.intro (lenT (d := 9) I b1) trivial)) (by kernel_rfl) (by kernel_rfl) ?_
  refine seqQ_norm ?_
  rcases itesome h with ⟨hb_1, h⟩ | ⟨hb_1, h⟩
  · refine Wp.condT (b := ((a0.length : Int) != (b1.length : Int))) (by kernel_rfl) (by kernel_rfl) hb_1 ?_
    refine Wp.seqN (by kernel_rfl) ?_
    refine Wp.reg tiok mix hc (by kernel_rfl) (ah := none) (rs := [some (.no)]) (kt := [4]) (ko := []) (T' := [(4, .bool false)]) (O' := []) (by kernel_rfl) trivial (by kernel_rfl) (by kernel_rfl) ?_
    refine seqQ_norm ?_
    refine Wp.retN (by kernel_rfl) ?_
    refine seqQ_ret ?_
    obtain rfl := Option.some.inj h
    exact RetQ.ret (fl := [true]) (by kernel_rfl)
  · refine Wp.condF (b := ((a0.length : Int) != (b1.length : Int))) (by kernel_rfl) (by kernel_rfl) hb_1 ?_
    refine Wp.skipN (by kernel_rfl) ?_
    refine seqQ_norm ?_
    refine Wp.seqN (by kernel_rfl) ?_
    refine Wp.seqN (by kernel_rfl) ?_
    refine Wp.reg tiok mix hc (by kernel_rfl) (ah := none) (rs := [some (.no)]) (kt := [0, 1, 5]) (ko := []) (T' := [(0, .sl (List.map I a0)), (1, .sl (List.map I b1)), (5, .int .i64 0)]) (O' := []) (by kernel_rfl) trivial (by kernel_rfl) (by kernel_rfl) ?_
    refine seqQ_norm ?_
    refine Wp.blockN (i := 0) (by kernel_rfl) ?_
    obtain ⟨fl, hl_7, h⟩ := bsome h
    have hL := laws_eqIntS_l0_s _ _ hl_7 c hc
    refine Wp.loopN (by kernel_rfl) ?_
    rcases fl with ⟨⟩ | r
    · refine WpL.into (e := (.exit 0)) (mkS [] []) hL ?_
      refine blockQ_hit ?_
      refine seqQ_norm ?_
      refine Wp.seqN (by kernel_rfl) ?_
      refine Wp.reg tiok mix hc (by kernel_rfl) (ah := none) (rs := [some (.no)]) (kt := [4]) (ko := []) (T' := [(4, .bool true)]) (O' := []) (by kernel_rfl) trivial (by kernel_rfl) (by kernel_rfl) ?_
      refine seqQ_norm ?_
      refine Wp.retN (by kernel_rfl) ?_
      obtain rfl := Option.some.inj h
      exact RetQ.ret (fl := [true]) (by kernel_rfl)
    · refine WpL.mono hL ?_
      rintro _ _ ⟨rfl, hfin⟩
      refine blockQ_ret ?_
      refine seqQ_ret ?_
      obtain rfl := Option.some.inj h
      exact ⟨.inl rfl, hfin⟩
def laws_eqTermS_F1 (c : Ctx) : (Unit) ⊕ (Bool) → Exit → AState → Prop
  | .inl _ => Into c (.exit 0) (mkS [] [])
  | .inr r => RetE TIx Try.f49 [] (.bool r)
mutual
def laws_eqTerm (p : GTerm × GTerm) : Option (Bool) :=
  match p with
  | (a0, b1) =>
    if (a0.fOp != b1.fOp) = true then
      some false
    else
      if (a0.fN != b1.fN) = true then
        some false
      else
        (laws_eqIntS (a0.fType, b1.fType)) >>= fun r_5_4 =>
        if r_5_4 = true then
          (laws_eqTermS (a0.fKids, b1.fKids)) >>= fun r_7_4 =>
          if r_7_4 = true then
            some true
          else
            some false
        else
          some false
  partial_fixpoint
def laws_eqTermS (p : (List GTerm) × (List GTerm)) : Option (Bool) :=
  match p with
  | (a0, b1) =>
    if ((a0.length : Int) != (b1.length : Int)) = true then
      some false
    else
      (laws_eqTermS_l0 (a0, b1, 0)) >>= fun fl => match fl with
      | .inl () =>
        some true
      | .inr r =>
        some r
  partial_fixpoint
def laws_eqTermS_l0 (p : (List GTerm) × (List GTerm) × Int) : Option ((Unit) ⊕ (Bool)) :=
  match p with
  | (a0, b1, i_4) =>
    if (decide (i_4 < (a0.length : Int))) = true then
      (idx a0 i_4) >>= fun e_6_2 =>
      (idx b1 i_4) >>= fun e_6_6 =>
      (laws_eqTerm (e_6_2, e_6_6)) >>= fun r_6_8 =>
      if r_6_8 = true then
        laws_eqTermS_l0 (a0, b1, (wr (i_4 + 1)))
      else
        some (.inr false)
    else
      some (.inl ())
  partial_fixpoint
end
def M_laws_eqTerm (p : GTerm × GTerm) (r : Bool) : Prop :=
  match p with
  | (a0, b1) => FnSound Try.prog 16 [.agg [.int .i64 a0.fOp, .int .i64 a0.fN, .sl (List.map I a0.fType), .sl (List.map GTerm_S a0.fKids)], .agg [.int .i64 b1.fOp, .int .i64 b1.fN, .sl (List.map I b1.fType), .sl (List.map GTerm_S b1.fKids)]] (.bool r) []
def M_laws_eqTermS (p : (List GTerm) × (List GTerm)) (r : Bool) : Prop :=
  match p with
  | (a0, b1) => FnSound Try.prog 49 [.sl (List.map GTerm_S a0), .sl (List.map GTerm_S b1)] (.bool r) []
def M_laws_eqTermS_l0 (p : (List GTerm) × (List GTerm) × Int) (fl : (Unit) ⊕ (Bool)) : Prop :=
  match p with
  | (a0, b1, i_4) => ∀ c : Ctx, c.nt = 27 → WpL Try.prog c (cl (cl (cr (cl (cr (cr B49)))))) (laws_eqTermS_F1 c fl) (mkS [(0, .sl (List.map GTerm_S a0)), (1, .sl (List.map GTerm_S b1)), (5, .int .i64 i_4)] [])
theorem laws_eqTerm_all : (∀ p r, laws_eqTerm p = some r → M_laws_eqTerm p r) ∧ (∀ p r, laws_eqTermS p = some r → M_laws_eqTermS p r) ∧ (∀ p r, laws_eqTermS_l0 p = some r → M_laws_eqTermS_l0 p r) := by
  refine laws_eqTerm.mutual_partial_correctness M_laws_eqTerm M_laws_eqTermS M_laws_eqTermS_l0 ?_ ?_ ?_
  · rintro laws_eqTermS_f laws_eqTermS_ih ⟨a0, b1⟩ r h
    show FnSound Try.prog 16 [.agg [.int .i64 a0.fOp, .int .i64 a0.fN, .sl (List.map I a0.fType), .sl (List.map GTerm_S a0.fKids)], .agg [.int .i64 b1.fOp, .int .i64 b1.fN, .sl (List.map I b1.fType), .sl (List.map GTerm_S b1.fKids)]] (.bool r) []
    refine FnSound.body0 tiok (fn := Try.f16) (code := B16) (by kernel_rfl) (by kernel_rfl) (by kernel_rfl) (by kernel_rfl) (nt := 27) (by kernel_rfl) (by kernel_rfl) (T := [(0, .agg [.int .i64 a0.fOp, .int .i64 a0.fN, .sl (List.map I a0.fType), .sl (List.map GTerm_S a0.fKids)]), (1, .agg [.int .i64 b1.fOp, .int .i64 b1.fN, .sl (List.map I b1.fType), .sl (List.map GTerm_S b1.fKids)])]) (O := []) (by kernel_rfl) (by kernel_rfl) (fun c hc => ?_)
    refine Wp.seqN (by kernel_rfl) ?_
    refine Wp.reg tiok mix hc (by kernel_rfl) (ah := none) (rs := [some (.new 1), some (.new 2), some (.no)]) (kt := [2, 3]) (ko := [1, 2]) (T' := [(2, .ra 1 0), (3, .ra 2 0)]) (O' := [(1, .box [.int .i64 a0.fOp, .int .i64 a0.fN, .sl (List.map I a0.fType), .sl (List.map GTerm_S a0.fKids)]), (2, .box [.int .i64 b1.fOp, .int .i64 b1.fN, .sl (List.map I b1.fType), .sl (List.map GTerm_S b1.fKids)])]) (by kernel_rfl) trivial (by kernel_rfl) (by kernel_rfl) ?_
    refine seqQ_norm ?_
    refine Wp.seqN (by kernel_rfl) ?_
    refine Wp.seqN (by kernel_rfl) ?_
    refine Wp.reg tiok mix hc (by kernel_rfl) (ah := none) (rs := [some (.no), some (.no), some (.no), some (.no), some (.no)]) (kt := [2, 3, 9]) (ko := [1, 2]) (T' := [(2, .ra 1 0), (3, .ra 2 0), (9, .bool (a0.fOp != b1.fOp))]) (O' := [(1, .box [.int .i64 a0.fOp, .int .i64 a0.fN, .sl (List.map I a0.fType), .sl (List.map GTerm_S a0.fKids)]), (2, .box [.int .i64 b1.fOp, .int .i64 b1.fN, .sl (List.map I b1.fType), .sl (List.map GTerm_S b1.fKids)])]) (by kernel_rfl) trivial (by kernel_rfl) (by kernel_rfl) ?_
    refine seqQ_norm ?_
    rcases itesome h with ⟨hb_1, h⟩ | ⟨hb_1, h⟩
    · refine Wp.condT (b := (a0.fOp != b1.fOp)) (by kernel_rfl) (by kernel_rfl) hb_1 ?_
      refine Wp.seqN (by kernel_rfl) ?_
      refine Wp.reg tiok mix hc (by kernel_rfl) (ah := none) (rs := [some (.no)]) (kt := [4]) (ko := []) (T' := [(4, .bool false)]) (O' := []) (by kernel_rfl) trivial (by kernel_rfl) (by kernel_rfl) ?_
      refine seqQ_norm ?_
      refine Wp.retN (by kernel_rfl) ?_
      refine seqQ_ret ?_
      obtain rfl := Option.some.inj h
      exact RetQ.ret (fl := [true]) (by kernel_rfl)
    · refine Wp.condF (b := (a0.fOp != b1.fOp)) (by kernel_rfl) (by kernel_rfl) hb_1 ?_
      refine Wp.skipN (by kernel_rfl) ?_
      refine seqQ_norm ?_
      refine Wp.seqN (by kernel_rfl) ?_
      refine Wp.seqN (by kernel_rfl) ?_
      refine Wp.reg tiok mix hc (by kernel_rfl) (ah := none) (rs := [some (.no), some (.no), some (.no), some (.no), some (.no)]) (kt := [2, 3, 14]) (ko := [1, 2]) (T' := [(2, .ra 1 0), (3, .ra 2 0), (14, .bool (a0.fN != b1.fN))]) (O' := [(1, .box [.int .i64 a0.fOp, .int .i64 a0.fN, .sl (List.map I a0.fType), .sl (List.map GTerm_S a0.fKids)]), (2, .box [.int .i64 b1.fOp, .int .i64 b1.fN, .sl (List.map I b1.fType), .sl (List.map GTerm_S b1.fKids)])]) (by kernel_rfl) trivial (by kernel_rfl) (by kernel_rfl) ?_
      refine seqQ_norm ?_
      rcases itesome h with ⟨hb_2, h⟩ | ⟨hb_2, h⟩
      · refine Wp.condT (b := (a0.fN != b1.fN)) (by kernel_rfl) (by kernel_rfl) hb_2 ?_
        refine Wp.seqN (by kernel_rfl) ?_
        refine Wp.reg tiok mix hc (by kernel_rfl) (ah := none) (rs := [some (.no)]) (kt := [4]) (ko := []) (T' := [(4, .bool false)]) (O' := []) (by kernel_rfl) trivial (by kernel_rfl) (by kernel_rfl) ?_
        refine seqQ_norm ?_
        refine Wp.retN (by kernel_rfl) ?_
        refine seqQ_ret ?_
        obtain rfl := Option.some.inj h
        exact RetQ.ret (fl := [true]) (by kernel_rfl)
      · refine Wp.condF (b := (a0.fN != b1.fN)) (by kernel_rfl) (by kernel_rfl) hb_2 ?_
        refine Wp.skipN (by kernel_rfl) ?_
        refine seqQ_norm ?_
        refine Wp.seqN (by kernel_rfl) ?_
        refine Wp.seqN (by kernel_rfl) ?_
        obtain ⟨r_5_4, hr_5_4, h⟩ := bsome h
        refine Wp.reg tiok mix hc (by kernel_rfl) (ah := none) (rs := [some (.no), some (.no), some (.no), some (.no), some (.call (.bool r_5_4) [] 1), some (.no)]) (kt := [2, 3, 20]) (ko := [1, 2]) (T' := [(2, .ra 1 0), (3, .ra 2 0), (20, .bool (!r_5_4))]) (O' := [(1, .box [.int .i64 a0.fOp, .int .i64 a0.fN, .sl (List.map I a0.fType), .sl (List.map GTerm_S a0.fKids)]), (2, .box [.int .i64 b1.fOp, .int .i64 b1.fN, .sl (List.map I b1.fType), .sl (List.map GTerm_S b1.fKids)])]) (by kernel_rfl) (And.intro (laws_eqIntS_s _ _ hr_5_4) (And.intro bod_18 (And.intro (Or.inl rfl : ([] : List Nat) = [] ∨ noSh (.bool r_5_4) = true) trivial))) (by kernel_rfl) (by kernel_rfl) ?_
        refine seqQ_norm ?_
        rcases itesome h with ⟨hb_3, h⟩ | ⟨hb_3, h⟩
        · refine Wp.condF (b := (!r_5_4)) (by kernel_rfl) (by kernel_rfl) (nF hb_3) ?_
          refine Wp.skipN (by kernel_rfl) ?_
          refine seqQ_norm ?_
          refine Wp.seqN (by kernel_rfl) ?_
          refine Wp.seqN (by kernel_rfl) ?_
          obtain ⟨r_7_4, hr_7_4, h⟩ := bsome h
          refine Wp.reg tiok mix hc (by kernel_rfl) (ah := none) (rs := [some (.no), some (.no), some (.no), some (.no), some (.call (.bool r_7_4) [] 1), some (.no)]) (kt := [26]) (ko := []) (T' := [(26, .bool (!r_7_4))]) (O' := []) (by kernel_rfl) (And.intro (laws_eqTermS_ih _ _ hr_7_4) (And.intro bod_49 (And.intro (Or.inl rfl : ([] : List Nat) = [] ∨ noSh (.bool r_7_4) = true) trivial))) (by kernel_rfl) (by kernel_rfl) ?_
          refine seqQ_norm ?_
          rcases itesome h with ⟨hb_4, h⟩ | ⟨hb_4, h⟩
          · refine Wp.condF (b := (!r_7_4)) (by kernel_rfl) (by kernel_rfl) (nF hb_4) ?_
            refine Wp.skipN (by kernel_rfl) ?_
            refine seqQ_norm ?_
            refine Wp.seqN (by kernel_rfl) ?_
            refine Wp.reg tiok mix hc (by kernel_rfl) (ah := none) (rs := [some (.no)]) (kt := [4]) (ko := []) (T' := [(4, .bool true)]) (O' := []) (by kernel_rfl) trivial (by kernel_rfl) (by kernel_rfl) ?_
            refine seqQ_norm ?_
            refine Wp.retN (by kernel_rfl) ?_
            obtain rfl := Option.some.inj h
            exact RetQ.ret (fl := [true]) (by kernel_rfl)
          · refine Wp.condT (b := (!r_7_4)) (by kernel_rfl) (by kernel_rfl) (nT hb_4) ?_
            refine Wp.seqN (by kernel_rfl) ?_
            refine Wp.reg tiok mix hc (by kernel_rfl) (ah := none) (rs := [some (.no)]) (kt := [4]) (ko := []) (T' := [(4, .bool false)]) (O' := []) (by kernel_rfl) trivial (by kernel_rfl) (by kernel_rfl) ?_
            refine seqQ_norm ?_
            refine Wp.retN (by kernel_rfl) ?_
            refine seqQ_ret ?_
            obtain rfl := Option.some.inj h
            exact RetQ.ret (fl := [true]) (by kernel_rfl)
        · refine Wp.condT (b := (!r_5_4)) (by kernel_rfl) (by kernel_rfl) (nT hb_3) ?_
          refine Wp.seqN (by kernel_rfl) ?_
          refine Wp.reg tiok mix hc (by kernel_rfl) (ah := none) (rs := [some (.no)]) (kt := [4]) (ko := []) (T' := [(4, .bool false)]) (O' := []) (by kernel_rfl) trivial (by kernel_rfl) (by kernel_rfl) ?_
          refine seqQ_norm ?_
          refine Wp.retN (by kernel_rfl) ?_
          refine seqQ_ret ?_
          obtain rfl := Option.some.inj h
          exact RetQ.ret (fl := [true]) (by kernel_rfl)
  · rintro laws_eqTermS_l0_f laws_eqTermS_l0_ih ⟨a0, b1⟩ r h
    show FnSound Try.prog 49 [.sl (List.map GTerm_S a0), .sl (List.map GTerm_S b1)] (.bool r) []
    refine FnSound.body0 tiok (fn := Try.f49) (code := B49) (by kernel_rfl) (by kernel_rfl) (by kernel_rfl) (by kernel_rfl) (nt := 27) (by kernel_rfl) (by kernel_rfl) (T := [(0, .sl (List.map GTerm_S a0)), (1, .sl (List.map GTerm_S b1))]) (O := []) (by kernel_rfl) (by kernel_rfl) (fun c hc => ?_)
    refine Wp.seqN (by kernel_rfl) ?_
    refine Wp.reg tiok mix hc (by kernel_rfl) (ah := none) (rs := [some (.no)]) (kt := [0, 1]) (ko := []) (T' := [(0, .sl (List.map GTerm_S a0)), (1, .sl (List.map GTerm_S b1))]) (O' := []) (by kernel_rfl) trivial (by kernel_rfl) (by kernel_rfl) ?_
    refine seqQ_norm ?_
    refine Wp.seqN (by kernel_rfl) ?_
    refine Wp.seqN (by kernel_rfl) ?_
    refine Wp.reg tiok mix hc (by kernel_rfl) (ah := none) (rs := [some (.no), some (.eqv (.no) ⟨[(7, .int .i64 (a0.length : Int))], [], []⟩), some (.no), some (.eqv (.no) ⟨[(9, .int .i64 (b1.length : Int))], [], []⟩), some (.no)]) (kt := [0, 1, 10]) (ko := []) (T' := [(0, .sl (List.map GTerm_S a0)), (1, .sl (List.map GTerm_S b1)), (10, .bool ((a0.length : Int) != (b1.length : Int)))]) (O' := []) (by kernel_rfl) (And.intro (lenT (d := 7) GTerm_S a0) (And.intro (lenT (d := 9) GTerm_S b1) trivial)) (by kernel_rfl) (by kernel_rfl) ?_
    refine seqQ_norm ?_
    rcases itesome h with ⟨hb_1, h⟩ | ⟨hb_1, h⟩
    · refine Wp.condT (b := ((a0.length : Int) != (b1.length : Int))) (by kernel_rfl) (by kernel_rfl) hb_1 ?_
      refine Wp.seqN (by kernel_rfl) ?_
      refine Wp.reg tiok mix hc (by kernel_rfl) (ah := none) (rs := [some (.no)]) (kt := [4]) (ko := []) (T' := [(4, .bool false)]) (O' := []) (by kernel_rfl) trivial (by kernel_rfl) (by kernel_rfl) ?_
      refine seqQ_norm ?_
      refine Wp.retN (by kernel_rfl) ?_
      refine seqQ_ret ?_
      obtain rfl := Option.some.inj h
      exact RetQ.ret (fl := [true]) (by kernel_rfl)
    · refine Wp.condF (b := ((a0.length : Int) != (b1.length : Int))) (by kernel_rfl) (by kernel_rfl) hb_1 ?_
      refine Wp.skipN (by kernel_rfl) ?_
      refine seqQ_norm ?_
      refine Wp.seqN (by kernel_rfl) ?_
      refine Wp.seqN (by kernel_rfl) ?_
      refine Wp.reg tiok mix hc (by kernel_rfl) (ah := none) (rs := [some (.no)]) (kt := [0, 1, 5]) (ko := []) (T' := [(0, .sl (List.map GTerm_S a0)), (1, .sl (List.map GTerm_S b1)), (5, .int .i64 0)]) (O' := []) (by kernel_rfl) trivial (by kernel_rfl) (by kernel_rfl) ?_
      refine seqQ_norm ?_
      refine Wp.blockN (i := 0) (by kernel_rfl) ?_
      obtain ⟨fl, hl_7, h⟩ := bsome h
      have hL := laws_eqTermS_l0_ih _ _ hl_7 c hc
      refine Wp.loopN (by kernel_rfl) ?_
      rcases fl with ⟨⟩ | r
      · refine WpL.into (e := (.exit 0)) (mkS [] []) hL ?_
        refine blockQ_hit ?_
        refine seqQ_norm ?_
        refine Wp.seqN (by kernel_rfl) ?_
        refine Wp.reg tiok mix hc (by kernel_rfl) (ah := none) (rs := [some (.no)]) (kt := [4]) (ko := []) (T' := [(4, .bool true)]) (O' := []) (by kernel_rfl) trivial (by kernel_rfl) (by kernel_rfl) ?_
        refine seqQ_norm ?_
        refine Wp.retN (by kernel_rfl) ?_
        obtain rfl := Option.some.inj h
        exact RetQ.ret (fl := [true]) (by kernel_rfl)
      · refine WpL.mono hL ?_
        rintro _ _ ⟨rfl, hfin⟩
        refine blockQ_ret ?_
        refine seqQ_ret ?_
        obtain rfl := Option.some.inj h
        exact ⟨.inl rfl, hfin⟩
  · rintro laws_eqTerm_f laws_eqTermS_l0_f laws_eqTerm_ih laws_eqTermS_l0_ih ⟨a0, b1, i_4⟩ r h
    intro c hc
    show WpL Try.prog c (cl (cl (cr (cl (cr (cr B49)))))) (laws_eqTermS_F1 c r) (mkS [(0, .sl (List.map GTerm_S a0)), (1, .sl (List.map GTerm_S b1)), (5, .int .i64 i_4)] [])
    refine WpL.step ?_
    refine Wp.seqN (by kernel_rfl) ?_
    refine Wp.seqN (by kernel_rfl) ?_
    refine Wp.reg tiok mix hc (by kernel_rfl) (ah := none) (rs := [some (.no), some (.no), some (.eqv (.no) ⟨[(13, .int .i64 (a0.length : Int))], [], []⟩), some (.no)]) (kt := [0, 1, 5, 14]) (ko := []) (T' := [(0, .sl (List.map GTerm_S a0)), (1, .sl (List.map GTerm_S b1)), (5, .int .i64 i_4), (14, .bool (decide (i_4 < (a0.length : Int))))]) (O' := []) (by kernel_rfl) (And.intro (lenT (d := 13) GTerm_S a0) trivial) (by kernel_rfl) (by kernel_rfl) ?_
    refine seqQ_norm ?_
    rcases itesome h with ⟨hb_5, h⟩ | ⟨hb_5, h⟩
    · refine Wp.condT (b := (decide (i_4 < (a0.length : Int)))) (by kernel_rfl) (by kernel_rfl) hb_5 ?_
      refine Wp.skipN (by kernel_rfl) ?_
      refine seqQ_norm ?_
      refine Wp.seqN (by kernel_rfl) ?_
      refine Wp.blockN (i := 1) (by kernel_rfl) ?_
      refine Wp.seqN (by kernel_rfl) ?_
      obtain ⟨e_6_2, hi_6_2, h⟩ := bsome h
      obtain ⟨e_6_6, hi_6_6, h⟩ := bsome h
      obtain ⟨r_6_8, hr_6_8, h⟩ := bsome h
      refine Wp.reg tiok mix hc (by kernel_rfl) (ah := (some [[], [], [0, 1], [0, 1, 2], [], [], [4, 5], [4, 5, 6], [0, 1, 2, 3, 4, 5, 6, 7], [0, 1, 2, 3, 4, 5, 6, 7, 8]])) (rs := [some (.no), some (.no), some (.el (.agg [.int .i64 e_6_2.fOp, .int .i64 e_6_2.fN, .sl (List.map I e_6_2.fType), .sl (List.map GTerm_S e_6_2.fKids)])), some (.no), some (.no), some (.no), some (.el (.agg [.int .i64 e_6_6.fOp, .int .i64 e_6_6.fN, .sl (List.map I e_6_6.fType), .sl (List.map GTerm_S e_6_6.fKids)])), some (.no), some (.call (.bool r_6_8) [] 1), some (.no)]) (kt := [0, 1, 5, 26]) (ko := []) (T' := [(0, .sl (List.map GTerm_S a0)), (1, .sl (List.map GTerm_S b1)), (5, .int .i64 i_4), (26, .bool (!r_6_8))]) (O' := []) (by kernel_rfl) (And.intro (idx_sl (enc := GTerm_S) (x := .agg [.int .i64 e_6_2.fOp, .int .i64 e_6_2.fN, .sl (List.map I e_6_2.fType), .sl (List.map GTerm_S e_6_2.fKids)]) hi_6_2 (eq_GTerm_S e_6_2)) (And.intro (idx_sl (enc := GTerm_S) (x := .agg [.int .i64 e_6_6.fOp, .int .i64 e_6_6.fN, .sl (List.map I e_6_6.fType), .sl (List.map GTerm_S e_6_6.fKids)]) hi_6_6 (eq_GTerm_S e_6_6)) (And.intro (laws_eqTerm_ih _ _ hr_6_8) (And.intro bod_16 (And.intro (Or.inl rfl : ([] : List Nat) = [] ∨ noSh (.bool r_6_8) = true) trivial))))) (by kernel_rfl) (by kernel_rfl) ?_
      refine seqQ_norm ?_
      rcases itesome h with ⟨hb_6, h⟩ | ⟨hb_6, h⟩
      · refine Wp.condF (b := (!r_6_8)) (by kernel_rfl) (by kernel_rfl) (nF hb_6) ?_
        refine Wp.skipN (by kernel_rfl) ?_
        refine blockQ_norm ?_
        refine seqQ_norm ?_
        refine Wp.reg tiok mix hc (by kernel_rfl) (ah := none) (rs := [some (.no), some (.no), some (.no)]) (kt := [0, 1, 5]) (ko := []) (T' := [(0, .sl (List.map GTerm_S a0)), (1, .sl (List.map GTerm_S b1)), (5, .int .i64 (wr (i_4 + 1)))]) (O' := []) (by kernel_rfl) trivial (by kernel_rfl) (by kernel_rfl) ?_
        refine loopQ_norm ?_
        exact (laws_eqTermS_l0_ih _ _ h c hc)
      · refine Wp.condT (b := (!r_6_8)) (by kernel_rfl) (by kernel_rfl) (nT hb_6) ?_
        refine Wp.seqN (by kernel_rfl) ?_
        refine Wp.reg tiok mix hc (by kernel_rfl) (ah := none) (rs := [some (.no)]) (kt := [4]) (ko := []) (T' := [(4, .bool false)]) (O' := []) (by kernel_rfl) trivial (by kernel_rfl) (by kernel_rfl) ?_
        refine seqQ_norm ?_
        refine Wp.retN (by kernel_rfl) ?_
        refine blockQ_ret ?_
        refine seqQ_ret ?_
        refine loopQ_ret ?_
        obtain rfl := Option.some.inj h
        exact RetE.ret (fl := [true]) (by kernel_rfl)
    · refine Wp.condF (b := (decide (i_4 < (a0.length : Int)))) (by kernel_rfl) (by kernel_rfl) hb_5 ?_
      refine Wp.exitN (i := 0) (by kernel_rfl) ?_
      refine seqQ_exit ?_
      refine loopQ_exit ?_
      obtain rfl := Option.some.inj h
      exact Into.view (fun a w hv => SRx.renL [] hv (by kernel_rfl) (by kernel_rfl) (by kernel_rfl))
theorem laws_eqTerm_s : ∀ p r, laws_eqTerm p = some r → M_laws_eqTerm p r := laws_eqTerm_all.1
theorem laws_eqTermS_s : ∀ p r, laws_eqTermS p = some r → M_laws_eqTermS p r := laws_eqTerm_all.2.1
theorem laws_eqTermS_l0_s : ∀ p r, laws_eqTermS_l0 p = some r → M_laws_eqTermS_l0 p r := laws_eqTerm_all.2.2
def laws_eqBoolS_F1 (c : Ctx) : (Unit) ⊕ (Bool) → Exit → AState → Prop
  | .inl _ => Into c (.exit 0) (mkS [] [])
  | .inr r => RetE TIx Try.f50 [] (.bool r)
def laws_eqBoolS_l0 (p : (List Bool) × (List Bool) × Int) : Option ((Unit) ⊕ (Bool)) :=
  match p with
  | (a0, b1, i_4) =>
    if (decide (i_4 < (a0.length : Int))) = true then
      (idx a0 i_4) >>= fun e_6_2 =>
      (idx b1 i_4) >>= fun e_6_6 =>
      if (e_6_2 == e_6_6) = true then
        laws_eqBoolS_l0 (a0, b1, (wr (i_4 + 1)))
      else
        some (.inr false)
    else
      some (.inl ())
  partial_fixpoint
def M_laws_eqBoolS_l0 (p : (List Bool) × (List Bool) × Int) (fl : (Unit) ⊕ (Bool)) : Prop :=
  match p with
  | (a0, b1, i_4) => ∀ c : Ctx, c.nt = 26 → WpL Try.prog c (cl (cl (cr (cl (cr (cr B50)))))) (laws_eqBoolS_F1 c fl) (mkS [(0, .sl (List.map AV.bool a0)), (1, .sl (List.map AV.bool b1)), (5, .int .i64 i_4)] [])
theorem laws_eqBoolS_l0_s : ∀ p r, laws_eqBoolS_l0 p = some r → M_laws_eqBoolS_l0 p r := by
  refine laws_eqBoolS_l0.partial_correctness M_laws_eqBoolS_l0 ?_
  rintro laws_eqBoolS_l0_f laws_eqBoolS_l0_ih ⟨a0, b1, i_4⟩ r h
  intro c hc
  show WpL Try.prog c (cl (cl (cr (cl (cr (cr B50)))))) (laws_eqBoolS_F1 c r) (mkS [(0, .sl (List.map AV.bool a0)), (1, .sl (List.map AV.bool b1)), (5, .int .i64 i_4)] [])
  refine WpL.step ?_
  refine Wp.seqN (by kernel_rfl) ?_
  refine Wp.seqN (by kernel_rfl) ?_
  refine Wp.reg tiok mix hc (by kernel_rfl) (ah := none) (rs := [some (.no), some (.no), some (.eqv (.no) ⟨[(13, .int .i64 (a0.length : Int))], [], []⟩), some (.no)]) (kt := [0, 1, 5, 14]) (ko := []) (T' := [(0, .sl (List.map AV.bool a0)), (1, .sl (List.map AV.bool b1)), (5, .int .i64 i_4), (14, .bool (decide (i_4 < (a0.length : Int))))]) (O' := []) (by kernel_rfl) (And.intro (lenT (d := 13) AV.bool a0) trivial) (by kernel_rfl) (by kernel_rfl) ?_
  refine seqQ_norm ?_
  rcases itesome h with ⟨hb_5, h⟩ | ⟨hb_5, h⟩
  · refine Wp.condT (b := (decide (i_4 < (a0.length : Int)))) (by kernel_rfl) (by kernel_rfl) hb_5 ?_
    refine Wp.skipN (by kernel_rfl) ?_
    refine seqQ_norm ?_
    refine Wp.seqN (by kernel_rfl) ?_
    refine Wp.blockN (i := 1) (by kernel_rfl) ?_
    refine Wp.seqN (by kernel_rfl) ?_
    obtain ⟨e_6_2, hi_6_2, h⟩ := bsome h
    obtain ⟨e_6_6, hi_6_6, h⟩ := bsome h
    refine Wp.reg tiok mix hc (by kernel_rfl) (ah := (some [[], [], [0, 1], [0, 1, 2], [], [], [4, 5], [4, 5, 6], [0, 1, 2, 3, 4, 5, 6, 7]])) (rs := [some (.no), some (.no), some (.el (.bool e_6_2)), some (.no), some (.no), some (.no), some (.el (.bool e_6_6)), some (.no), some (.no)]) (kt := [0, 1, 5, 25]) (ko := []) (T' := [(0, .sl (List.map AV.bool a0)), (1, .sl (List.map AV.bool b1)), (5, .int .i64 i_4), (25, .bool (!(e_6_2 == e_6_6)))]) (O' := []) (by kernel_rfl) (And.intro (idx_sl (enc := AV.bool) (x := .bool e_6_2) hi_6_2 (eq_B e_6_2)) (And.intro (idx_sl (enc := AV.bool) (x := .bool e_6_6) hi_6_6 (eq_B e_6_6)) trivial)) (by kernel_rfl) (by kernel_rfl) ?_
    refine seqQ_norm ?_
    rcases itesome h with ⟨hb_6, h⟩ | ⟨hb_6, h⟩
    · refine Wp.condF (b := (!(e_6_2 == e_6_6))) (by kernel_rfl) (by kernel_rfl) (nF hb_6) ?_
      refine Wp.skipN (by kernel_rfl) ?_
      refine blockQ_norm ?_
      refine seqQ_norm ?_
      refine Wp.reg tiok mix hc (by kernel_rfl) (ah := none) (rs := [some (.no), some (.no), some (.no)]) (kt := [0, 1, 5]) (ko := []) (T' := [(0, .sl (List.map AV.bool a0)), (1, .sl (List.map AV.bool b1)), (5, .int .i64 (wr (i_4 + 1)))]) (O' := []) (by kernel_rfl) trivial (by kernel_rfl) (by kernel_rfl) ?_
      refine loopQ_norm ?_
      exact (laws_eqBoolS_l0_ih _ _ h c hc)
    · refine Wp.condT (b := (!(e_6_2 == e_6_6))) (by kernel_rfl) (by kernel_rfl) (nT hb_6) ?_
      refine Wp.seqN (by kernel_rfl) ?_
      refine Wp.reg tiok mix hc (by kernel_rfl) (ah := none) (rs := [some (.no)]) (kt := [4]) (ko := []) (T' := [(4, .bool false)]) (O' := []) (by kernel_rfl) trivial (by kernel_rfl) (by kernel_rfl) ?_
      refine seqQ_norm ?_
      refine Wp.retN (by kernel_rfl) ?_
      refine blockQ_ret ?_
      refine seqQ_ret ?_
      refine loopQ_ret ?_
      obtain rfl := Option.some.inj h
      exact RetE.ret (fl := [true]) (by kernel_rfl)
  · refine Wp.condF (b := (decide (i_4 < (a0.length : Int)))) (by kernel_rfl) (by kernel_rfl) hb_5 ?_
    refine Wp.exitN (i := 0) (by kernel_rfl) ?_
    refine seqQ_exit ?_
    refine loopQ_exit ?_
    obtain rfl := Option.some.inj h
    exact Into.view (fun a w hv => SRx.renL [] hv (by kernel_rfl) (by kernel_rfl) (by kernel_rfl))
def laws_eqBoolS (p : (List Bool) × (List Bool)) : Option (Bool) :=
  match p with
  | (a0, b1) =>
    if ((a0.length : Int) != (b1.length : Int)) = true then
      some false
    else
      (laws_eqBoolS_l0 (a0, b1, 0)) >>= fun fl => match fl with
      | .inl () =>
        some true
      | .inr r =>
        some r
def M_laws_eqBoolS (p : (List Bool) × (List Bool)) (r : Bool) : Prop :=
  match p with
  | (a0, b1) => FnSound Try.prog 50 [.sl (List.map AV.bool a0), .sl (List.map AV.bool b1)] (.bool r) []
theorem laws_eqBoolS_s : ∀ p r, laws_eqBoolS p = some r → M_laws_eqBoolS p r := by
  rintro ⟨a0, b1⟩ r h
  unfold laws_eqBoolS at h
  show FnSound Try.prog 50 [.sl (List.map AV.bool a0), .sl (List.map AV.bool b1)] (.bool r) []
  refine FnSound.body0 tiok (fn := Try.f50) (code := B50) (by kernel_rfl) (by kernel_rfl) (by kernel_rfl) (by kernel_rfl) (nt := 26) (by kernel_rfl) (by kernel_rfl) (T := [(0, .sl (List.map AV.bool a0)), (1, .sl (List.map AV.bool b1))]) (O := []) (by kernel_rfl) (by kernel_rfl) (fun c hc => ?_)
  refine Wp.seqN (by kernel_rfl) ?_
  refine Wp.reg tiok mix hc (by kernel_rfl) (ah := none) (rs := [some (.no)]) (kt := [0, 1]) (ko := []) (T' := [(0, .sl (List.map AV.bool a0)), (1, .sl (List.map AV.bool b1))]) (O' := []) (by kernel_rfl) trivial (by kernel_rfl) (by kernel_rfl) ?_
  refine seqQ_norm ?_
  refine Wp.seqN (by kernel_rfl) ?_
  refine Wp.seqN (by kernel_rfl) ?_
  refine Wp.reg tiok mix hc (by kernel_rfl) (ah := none) (rs := [some (.no), some (.eqv (.no) ⟨[(7, .int .i64 (a0.length : Int))], [], []⟩), some (.no), some (.eqv (.no) ⟨[(9, .int .i64 (b1.length : Int))], [], []⟩), some (.no)]) (kt := [0, 1, 10]) (ko := []) (T' := [(0, .sl (List.map AV.bool a0)), (1, .sl (List.map AV.bool b1)), (10, .bool ((a0.length : Int) != (b1.length : Int)))]) (O' := []) (by kernel_rfl) (And.intro (lenT (d := 7) AV.bool a0) (And.intro (lenT (d := 9) AV.bool b1) trivial)) (by kernel_rfl) (by kernel_rfl) ?_
  refine seqQ_norm ?_
  rcases itesome h with ⟨hb_1, h⟩ | ⟨hb_1, h⟩
  · refine Wp.condT (b := ((a0.length : Int) != (b1.length : Int))) (by kernel_rfl) (by kernel_rfl) hb_1 ?_
    refine Wp.seqN (by kernel_rfl) ?_
    refine Wp.reg tiok mix hc (by kernel_rfl) (ah := none) (rs := [some (.no)]) (kt := [4]) (ko := []) (T' := [(4, .bool false)]) (O' := []) (by kernel_rfl) trivial (by kernel_rfl) (by kernel_rfl) ?_
    refine seqQ_norm ?_
    refine Wp.retN (by kernel_rfl) ?_
    refine seqQ_ret ?_
    obtain rfl := Option.some.inj h
    exact RetQ.ret (fl := [true]) (by kernel_rfl)
  · refine Wp.condF (b := ((a0.length : Int) != (b1.length : Int))) (by kernel_rfl) (by kernel_rfl) hb_1 ?_
    refine Wp.skipN (by kernel_rfl) ?_
    refine seqQ_norm ?_
    refine Wp.seqN (by kernel_rfl) ?_
    refine Wp.seqN (by kernel_rfl) ?_
    refine Wp.reg tiok mix hc (by kernel_rfl) (ah := none) (rs := [some (.no)]) (kt := [0, 1, 5]) (ko := []) (T' := [(0, .sl (List.map AV.bool a0)), (1, .sl (List.map AV.bool b1)), (5, .int .i64 0)]) (O' := []) (by kernel_rfl) trivial (by kernel_rfl) (by kernel_rfl) ?_
    refine seqQ_norm ?_
    refine Wp.blockN (i := 0) (by kernel_rfl) ?_
    obtain ⟨fl, hl_7, h⟩ := bsome h
    have hL := laws_eqBoolS_l0_s _ _ hl_7 c hc
    refine Wp.loopN (by kernel_rfl) ?_
    rcases fl with ⟨⟩ | r
    · refine WpL.into (e := (.exit 0)) (mkS [] []) hL ?_
      refine blockQ_hit ?_
      refine seqQ_norm ?_
      refine Wp.seqN (by kernel_rfl) ?_
      refine Wp.reg tiok mix hc (by kernel_rfl) (ah := none) (rs := [some (.no)]) (kt := [4]) (ko := []) (T' := [(4, .bool true)]) (O' := []) (by kernel_rfl) trivial (by kernel_rfl) (by kernel_rfl) ?_
      refine seqQ_norm ?_
      refine Wp.retN (by kernel_rfl) ?_
      obtain rfl := Option.some.inj h
      exact RetQ.ret (fl := [true]) (by kernel_rfl)
    · refine WpL.mono hL ?_
      rintro _ _ ⟨rfl, hfin⟩
      refine blockQ_ret ?_
      refine seqQ_ret ?_
      obtain rfl := Option.some.inj h
      exact ⟨.inl rfl, hfin⟩
def laws_eqSystem (p : GSystem × GSystem) : Option (Bool) :=
  match p with
  | (a0, b1) =>
    if (a0.fSize != b1.fSize) = true then
      some false
    else
      (laws_eqIntS (a0.fPlus, b1.fPlus)) >>= fun r_3_4 =>
      if r_3_4 = true then
        (laws_eqIntS (a0.fTimes, b1.fTimes)) >>= fun r_5_4 =>
        if r_5_4 = true then
          (laws_eqBoolS (a0.fBelow, b1.fBelow)) >>= fun r_7_4 =>
          if r_7_4 = true then
            some true
          else
            some false
        else
          some false
      else
        some false
def M_laws_eqSystem (p : GSystem × GSystem) (r : Bool) : Prop :=
  match p with
  | (a0, b1) => FnSound Try.prog 17 [.agg [.int .i64 a0.fSize, .sl (List.map I a0.fPlus), .sl (List.map I a0.fTimes), .sl (List.map AV.bool a0.fBelow)], .agg [.int .i64 b1.fSize, .sl (List.map I b1.fPlus), .sl (List.map I b1.fTimes), .sl (List.map AV.bool b1.fBelow)]] (.bool r) []
theorem laws_eqSystem_s : ∀ p r, laws_eqSystem p = some r → M_laws_eqSystem p r := by
  rintro ⟨a0, b1⟩ r h
  unfold laws_eqSystem at h
  show FnSound Try.prog 17 [.agg [.int .i64 a0.fSize, .sl (List.map I a0.fPlus), .sl (List.map I a0.fTimes), .sl (List.map AV.bool a0.fBelow)], .agg [.int .i64 b1.fSize, .sl (List.map I b1.fPlus), .sl (List.map I b1.fTimes), .sl (List.map AV.bool b1.fBelow)]] (.bool r) []
  refine FnSound.body0 tiok (fn := Try.f17) (code := B17) (by kernel_rfl) (by kernel_rfl) (by kernel_rfl) (by kernel_rfl) (nt := 28) (by kernel_rfl) (by kernel_rfl) (T := [(0, .agg [.int .i64 a0.fSize, .sl (List.map I a0.fPlus), .sl (List.map I a0.fTimes), .sl (List.map AV.bool a0.fBelow)]), (1, .agg [.int .i64 b1.fSize, .sl (List.map I b1.fPlus), .sl (List.map I b1.fTimes), .sl (List.map AV.bool b1.fBelow)])]) (O := []) (by kernel_rfl) (by kernel_rfl) (fun c hc => ?_)
  refine Wp.seqN (by kernel_rfl) ?_
  refine Wp.reg tiok mix hc (by kernel_rfl) (ah := none) (rs := [some (.new 1), some (.new 2), some (.no)]) (kt := [2, 3]) (ko := [1, 2]) (T' := [(2, .ra 1 0), (3, .ra 2 0)]) (O' := [(1, .box [.int .i64 a0.fSize, .sl (List.map I a0.fPlus), .sl (List.map I a0.fTimes), .sl (List.map AV.bool a0.fBelow)]), (2, .box [.int .i64 b1.fSize, .sl (List.map I b1.fPlus), .sl (List.map I b1.fTimes), .sl (List.map AV.bool b1.fBelow)])]) (by kernel_rfl) trivial (by kernel_rfl) (by kernel_rfl) ?_
  refine seqQ_norm ?_
  refine Wp.seqN (by kernel_rfl) ?_
  refine Wp.seqN (by kernel_rfl) ?_
  refine Wp.reg tiok mix hc (by kernel_rfl) (ah := none) (rs := [some (.no), some (.no), some (.no), some (.no), some (.no)]) (kt := [2, 3, 9]) (ko := [1, 2]) (T' := [(2, .ra 1 0), (3, .ra 2 0), (9, .bool (a0.fSize != b1.fSize))]) (O' := [(1, .box [.int .i64 a0.fSize, .sl (List.map I a0.fPlus), .sl (List.map I a0.fTimes), .sl (List.map AV.bool a0.fBelow)]), (2, .box [.int .i64 b1.fSize, .sl (List.map I b1.fPlus), .sl (List.map I b1.fTimes), .sl (List.map AV.bool b1.fBelow)])]) (by kernel_rfl) trivial (by kernel_rfl) (by kernel_rfl) ?_
  refine seqQ_norm ?_
  rcases itesome h with ⟨hb_1, h⟩ | ⟨hb_1, h⟩
  · refine Wp.condT (b := (a0.fSize != b1.fSize)) (by kernel_rfl) (by kernel_rfl) hb_1 ?_
    refine Wp.seqN (by kernel_rfl) ?_
    refine Wp.reg tiok mix hc (by kernel_rfl) (ah := none) (rs := [some (.no)]) (kt := [4]) (ko := []) (T' := [(4, .bool false)]) (O' := []) (by kernel_rfl) trivial (by kernel_rfl) (by kernel_rfl) ?_
    refine seqQ_norm ?_
    refine Wp.retN (by kernel_rfl) ?_
    refine seqQ_ret ?_
    obtain rfl := Option.some.inj h
    exact RetQ.ret (fl := [true]) (by kernel_rfl)
  · refine Wp.condF (b := (a0.fSize != b1.fSize)) (by kernel_rfl) (by kernel_rfl) hb_1 ?_
    refine Wp.skipN (by kernel_rfl) ?_
    refine seqQ_norm ?_
    refine Wp.seqN (by kernel_rfl) ?_
    refine Wp.seqN (by kernel_rfl) ?_
    obtain ⟨r_3_4, hr_3_4, h⟩ := bsome h
    refine Wp.reg tiok mix hc (by kernel_rfl) (ah := none) (rs := [some (.no), some (.no), some (.no), some (.no), some (.call (.bool r_3_4) [] 1), some (.no)]) (kt := [2, 3, 15]) (ko := [1, 2]) (T' := [(2, .ra 1 0), (3, .ra 2 0), (15, .bool (!r_3_4))]) (O' := [(1, .box [.int .i64 a0.fSize, .sl (List.map I a0.fPlus), .sl (List.map I a0.fTimes), .sl (List.map AV.bool a0.fBelow)]), (2, .box [.int .i64 b1.fSize, .sl (List.map I b1.fPlus), .sl (List.map I b1.fTimes), .sl (List.map AV.bool b1.fBelow)])]) (by kernel_rfl) (And.intro (laws_eqIntS_s _ _ hr_3_4) (And.intro bod_18 (And.intro (Or.inl rfl : ([] : List Nat) = [] ∨ noSh (.bool r_3_4) = true) trivial))) (by kernel_rfl) (by kernel_rfl) ?_
    refine seqQ_norm ?_
    rcases itesome h with ⟨hb_2, h⟩ | ⟨hb_2, h⟩
    · refine Wp.condF (b := (!r_3_4)) (by kernel_rfl) (by kernel_rfl) (nF hb_2) ?_
      refine Wp.skipN (by kernel_rfl) ?_
      refine seqQ_norm ?_
      refine Wp.seqN (by kernel_rfl) ?_
      refine Wp.seqN (by kernel_rfl) ?_
      obtain ⟨r_5_4, hr_5_4, h⟩ := bsome h
      refine Wp.reg tiok mix hc (by kernel_rfl) (ah := none) (rs := [some (.no), some (.no), some (.no), some (.no), some (.call (.bool r_5_4) [] 1), some (.no)]) (kt := [2, 3, 21]) (ko := [1, 2]) (T' := [(2, .ra 1 0), (3, .ra 2 0), (21, .bool (!r_5_4))]) (O' := [(1, .box [.int .i64 a0.fSize, .sl (List.map I a0.fPlus), .sl (List.map I a0.fTimes), .sl (List.map AV.bool a0.fBelow)]), (2, .box [.int .i64 b1.fSize, .sl (List.map I b1.fPlus), .sl (List.map I b1.fTimes), .sl (List.map AV.bool b1.fBelow)])]) (by kernel_rfl) (And.intro (laws_eqIntS_s _ _ hr_5_4) (And.intro bod_18 (And.intro (Or.inl rfl : ([] : List Nat) = [] ∨ noSh (.bool r_5_4) = true) trivial))) (by kernel_rfl) (by kernel_rfl) ?_
      refine seqQ_norm ?_
      rcases itesome h with ⟨hb_3, h⟩ | ⟨hb_3, h⟩
      · refine Wp.condF (b := (!r_5_4)) (by kernel_rfl) (by kernel_rfl) (nF hb_3) ?_
        refine Wp.skipN (by kernel_rfl) ?_
        refine seqQ_norm ?_
        refine Wp.seqN (by kernel_rfl) ?_
        refine Wp.seqN (by kernel_rfl) ?_
        obtain ⟨r_7_4, hr_7_4, h⟩ := bsome h
        refine Wp.reg tiok mix hc (by kernel_rfl) (ah := none) (rs := [some (.no), some (.no), some (.no), some (.no), some (.call (.bool r_7_4) [] 1), some (.no)]) (kt := [27]) (ko := []) (T' := [(27, .bool (!r_7_4))]) (O' := []) (by kernel_rfl) (And.intro (laws_eqBoolS_s _ _ hr_7_4) (And.intro bod_50 (And.intro (Or.inl rfl : ([] : List Nat) = [] ∨ noSh (.bool r_7_4) = true) trivial))) (by kernel_rfl) (by kernel_rfl) ?_
        refine seqQ_norm ?_
        rcases itesome h with ⟨hb_4, h⟩ | ⟨hb_4, h⟩
        · refine Wp.condF (b := (!r_7_4)) (by kernel_rfl) (by kernel_rfl) (nF hb_4) ?_
          refine Wp.skipN (by kernel_rfl) ?_
          refine seqQ_norm ?_
          refine Wp.seqN (by kernel_rfl) ?_
          refine Wp.reg tiok mix hc (by kernel_rfl) (ah := none) (rs := [some (.no)]) (kt := [4]) (ko := []) (T' := [(4, .bool true)]) (O' := []) (by kernel_rfl) trivial (by kernel_rfl) (by kernel_rfl) ?_
          refine seqQ_norm ?_
          refine Wp.retN (by kernel_rfl) ?_
          obtain rfl := Option.some.inj h
          exact RetQ.ret (fl := [true]) (by kernel_rfl)
        · refine Wp.condT (b := (!r_7_4)) (by kernel_rfl) (by kernel_rfl) (nT hb_4) ?_
          refine Wp.seqN (by kernel_rfl) ?_
          refine Wp.reg tiok mix hc (by kernel_rfl) (ah := none) (rs := [some (.no)]) (kt := [4]) (ko := []) (T' := [(4, .bool false)]) (O' := []) (by kernel_rfl) trivial (by kernel_rfl) (by kernel_rfl) ?_
          refine seqQ_norm ?_
          refine Wp.retN (by kernel_rfl) ?_
          refine seqQ_ret ?_
          obtain rfl := Option.some.inj h
          exact RetQ.ret (fl := [true]) (by kernel_rfl)
      · refine Wp.condT (b := (!r_5_4)) (by kernel_rfl) (by kernel_rfl) (nT hb_3) ?_
        refine Wp.seqN (by kernel_rfl) ?_
        refine Wp.reg tiok mix hc (by kernel_rfl) (ah := none) (rs := [some (.no)]) (kt := [4]) (ko := []) (T' := [(4, .bool false)]) (O' := []) (by kernel_rfl) trivial (by kernel_rfl) (by kernel_rfl) ?_
        refine seqQ_norm ?_
        refine Wp.retN (by kernel_rfl) ?_
        refine seqQ_ret ?_
        obtain rfl := Option.some.inj h
        exact RetQ.ret (fl := [true]) (by kernel_rfl)
    · refine Wp.condT (b := (!r_3_4)) (by kernel_rfl) (by kernel_rfl) (nT hb_2) ?_
      refine Wp.seqN (by kernel_rfl) ?_
      refine Wp.reg tiok mix hc (by kernel_rfl) (ah := none) (rs := [some (.no)]) (kt := [4]) (ko := []) (T' := [(4, .bool false)]) (O' := []) (by kernel_rfl) trivial (by kernel_rfl) (by kernel_rfl) ?_
      refine seqQ_norm ?_
      refine Wp.retN (by kernel_rfl) ?_
      refine seqQ_ret ?_
      obtain rfl := Option.some.inj h
      exact RetQ.ret (fl := [true]) (by kernel_rfl)
def laws_markIntS_F1 (c : Ctx) : Int × (List Int) → Exit → AState → Prop
  | (k_6, x_7) => Into c (.exit 0) (mkS [(1, .int .i64 k_6)] [(1000, .arr (List.map I x_7))])
def laws_markIntS_l0 (p : (List Int) × Int × Int) : Option (Int × (List Int)) :=
  match p with
  | (a_2, k_3, i_4) =>
    if (decide (i_4 < (a_2.length : Int))) = true then
      (idx a_2 i_4) >>= fun e_4_3 =>
      laws_markIntS_l0 ((List.set a_2 (Int.toNat i_4) k_3), (wr (k_3 + 1)), (wr (i_4 + 1)))
    else
      some ((k_3, a_2))
  partial_fixpoint
def M_laws_markIntS_l0 (p : (List Int) × Int × Int) (fl : Int × (List Int)) : Prop :=
  match p with
  | (a_2, k_3, i_4) => ∀ c : Ctx, c.nt = 19 → WpL Try.prog c (cl (cl (cr (cl (cr B20))))) (laws_markIntS_F1 c fl) (mkS [(0, .rs 1000), (1, .int .i64 k_3), (5, .int .i64 i_4)] [(1000, .arr (List.map I a_2))])
theorem laws_markIntS_l0_s : ∀ p r, laws_markIntS_l0 p = some r → M_laws_markIntS_l0 p r := by
  refine laws_markIntS_l0.partial_correctness M_laws_markIntS_l0 ?_
  rintro laws_markIntS_l0_f laws_markIntS_l0_ih ⟨a_2, k_3, i_4⟩ r h
  intro c hc
  show WpL Try.prog c (cl (cl (cr (cl (cr B20))))) (laws_markIntS_F1 c r) (mkS [(0, .rs 1000), (1, .int .i64 k_3), (5, .int .i64 i_4)] [(1000, .arr (List.map I a_2))])
  refine WpL.step ?_
  refine Wp.seqN (by kernel_rfl) ?_
  refine Wp.seqN (by kernel_rfl) ?_
  refine Wp.reg tiok mix hc (by kernel_rfl) (ah := none) (rs := [some (.no), some (.no), some (.eqv (.no) ⟨[(8, .int .i64 (a_2.length : Int))], [], []⟩), some (.no)]) (kt := [0, 1, 5, 9]) (ko := [1000]) (T' := [(0, .rs 1000), (1, .int .i64 k_3), (5, .int .i64 i_4), (9, .bool (decide (i_4 < (a_2.length : Int))))]) (O' := [(1000, .arr (List.map I a_2))]) (by kernel_rfl) (And.intro (lenT (d := 8) I a_2) trivial) (by kernel_rfl) (by kernel_rfl) ?_
  refine seqQ_norm ?_
  rcases itesome h with ⟨hb_5, h⟩ | ⟨hb_5, h⟩
  · refine Wp.condT (b := (decide (i_4 < (a_2.length : Int)))) (by kernel_rfl) (by kernel_rfl) hb_5 ?_
    refine Wp.skipN (by kernel_rfl) ?_
    refine seqQ_norm ?_
    refine Wp.seqN (by kernel_rfl) ?_
    refine Wp.blockN (i := 1) (by kernel_rfl) ?_
    refine Wp.seqN (by kernel_rfl) ?_
    obtain ⟨e_4_3, hi_4_3, h⟩ := bsome h
    refine Wp.reg tiok mix hc (by kernel_rfl) (ah := none) (rs := [some (.no), some (.no), some (.no), some (.no), some (.eqv (.mk 0 true) ⟨[], [(1000, some (.arr (List.map I (List.set a_2 (Int.toNat i_4) k_3))))], []⟩)]) (kt := [0, 1, 5]) (ko := [1000]) (T' := [(0, .rs 1000), (1, .int .i64 k_3), (5, .int .i64 i_4)]) (O' := [(1000, .arr (List.map I (List.set a_2 (Int.toNat i_4) k_3)))]) (by kernel_rfl) (And.intro (idx_own (enc := I) hi_4_3) (And.intro (congrArg (fun z => (⟨[], [(1000, some (.arr z))], []⟩ : Wr)) (set_row (enc := I) (i := Int.toNat i_4) (l := a_2) (v := k_3) (x := AV.int .i64 k_3) (eq_I k_3))) (And.intro (own_set (enc := I) (sz := 1) sz_I hi_4_3) trivial))) (by kernel_rfl) (by kernel_rfl) ?_
    refine seqQ_norm ?_
    refine Wp.reg tiok mix hc (by kernel_rfl) (ah := none) (rs := [some (.no), some (.no), some (.no)]) (kt := [0, 1, 5]) (ko := [1000]) (T' := [(0, .rs 1000), (1, .int .i64 (wr (k_3 + 1))), (5, .int .i64 i_4)]) (O' := [(1000, .arr (List.map I (List.set a_2 (Int.toNat i_4) k_3)))]) (by kernel_rfl) trivial (by kernel_rfl) (by kernel_rfl) ?_
    refine blockQ_norm ?_
    refine seqQ_norm ?_
    refine Wp.reg tiok mix hc (by kernel_rfl) (ah := none) (rs := [some (.no), some (.no), some (.no)]) (kt := [0, 1, 5]) (ko := [1000]) (T' := [(0, .rs 1000), (1, .int .i64 (wr (k_3 + 1))), (5, .int .i64 (wr (i_4 + 1)))]) (O' := [(1000, .arr (List.map I (List.set a_2 (Int.toNat i_4) k_3)))]) (by kernel_rfl) trivial (by kernel_rfl) (by kernel_rfl) ?_
    refine loopQ_norm ?_
    exact (laws_markIntS_l0_ih _ _ h c hc)
  · refine Wp.condF (b := (decide (i_4 < (a_2.length : Int)))) (by kernel_rfl) (by kernel_rfl) hb_5 ?_
    refine Wp.exitN (i := 0) (by kernel_rfl) ?_
    refine seqQ_exit ?_
    refine loopQ_exit ?_
    obtain ⟨rfl, rfl⟩ := Prod.mk.inj (Option.some.inj h)
    exact Into.view (fun a w hv => SRx.renL [] hv (by kernel_rfl) (by kernel_rfl) (by kernel_rfl))
end Go.Am
