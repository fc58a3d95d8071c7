/- Functions of the program as pure functions, and that it computes them. Printed by a program of mine (gen.py). -/
import Derived.Test.YtfakfcaegabgaaaGIVF5
set_option linter.unusedVariables false
set_option linter.unusedSimpArgs false
set_option maxRecDepth 100000
namespace Go.Am
open Go Go.Proofs
def impl_isValue (p : (List Int) × GTerm) : Option (Bool) :=
  match p with
  | (ty0, v1) =>
    (idx ty0 0) >>= fun e_1_1 =>
    (impl_shape e_1_1) >>= fun (r_1_3_0, r_1_3_1) =>
    (impl_parts ty0) >>= fun r_2_1 =>
    if (r_1_3_0 == 0) = true then
      (
        if (v1.fOp == 1) = true then
          (impl_within (v1.fN, 0, 2)) >>= fun r_5_6 =>
          if r_5_6 = true then
            if ((v1.fType.length : Int) == 0) = true then
              some (((v1.fKids.length : Int) == 0))
            else
              some (false)
          else
            some (false)
        else
          some (false)
      ) >>= fun v_2 =>
      some v_2
    else
      if (r_1_3_0 == 1) = true then
        (
          if (v1.fOp == 4) = true then
            if (v1.fN == 0) = true then
              if ((v1.fType.length : Int) == 0) = true then
                if ((v1.fKids.length : Int) == 2) = true then
                  (idx r_2_1 0) >>= fun e_7_22 =>
                  (idx v1.fKids 0) >>= fun e_7_26 =>
                  (impl_isValue (e_7_22, e_7_26)) >>= fun r_7_28 =>
                  if r_7_28 = true then
                    (idx r_2_1 1) >>= fun e_7_32 =>
                    (idx v1.fKids 1) >>= fun e_7_36 =>
                    (impl_isValue (e_7_32, e_7_36)) >>= fun r_7_38 =>
                    some (r_7_38)
                  else
                    some (false)
                else
                  some (false)
              else
                some (false)
            else
              some (false)
          else
            some (false)
        ) >>= fun v_5 =>
        some v_5
      else
        if (r_1_3_0 == 2) = true then
          (
            if (v1.fN != 0) = true then
              some (true)
            else
              if ((v1.fKids.length : Int) != 1) = true then
                some (true)
              else
                if (v1.fOp != 6) = true then
                  some ((v1.fOp != 7))
                else
                  some (false)
          ) >>= fun v_8 =>
          if v_8 = true then
            some false
          else
            (
              (idx r_2_1 (wr (1 - (wr (v1.fOp - 6))))) >>= fun e_12_5 =>
              (slices_Equal_int (v1.fType, e_12_5)) >>= fun r_12_7 =>
              if r_12_7 = true then
                (idx r_2_1 (wr (v1.fOp - 6))) >>= fun e_12_11 =>
                (idx v1.fKids 0) >>= fun e_12_15 =>
                (impl_isValue (e_12_11, e_12_15)) >>= fun r_12_17 =>
                some (r_12_17)
              else
                some (false)
            ) >>= fun v_11 =>
            some v_11
        else
          (
            if (v1.fOp == 11) = true then
              if (v1.fN == r_1_3_1) = true then
                if ((v1.fType.length : Int) == 0) = true then
                  if ((v1.fKids.length : Int) == 1) = true then
                    (idx r_2_1 0) >>= fun e_13_23 =>
                    (idx v1.fKids 0) >>= fun e_13_27 =>
                    (impl_isValue (e_13_23, e_13_27)) >>= fun r_13_29 =>
                    some (r_13_29)
                  else
                    some (false)
                else
                  some (false)
              else
                some (false)
            else
              some (false)
          ) >>= fun v_13 =>
          some v_13
  partial_fixpoint
def M_impl_isValue (p : (List Int) × GTerm) (r : Bool) : Prop :=
  match p with
  | (ty0, v1) => FnSound Try.prog 76 [.sl (List.map I ty0), .agg [.int .i64 v1.fOp, .int .i64 v1.fN, .sl (List.map I v1.fType), .sl (List.map GTerm_S v1.fKids)]] (.bool r) []
theorem impl_isValue_s : ∀ p r, impl_isValue p = some r → M_impl_isValue p r := by
  refine impl_isValue.partial_correctness M_impl_isValue ?_
  rintro impl_isValue_f impl_isValue_ih ⟨ty0, v1⟩ r h
  show FnSound Try.prog 76 [.sl (List.map I ty0), .agg [.int .i64 v1.fOp, .int .i64 v1.fN, .sl (List.map I v1.fType), .sl (List.map GTerm_S v1.fKids)]] (.bool r) []
  refine FnSound.body0 tiok (fn := Try.f76) (code := B76) (by kernel_rfl) (by kernel_rfl) (by kernel_rfl) (by kernel_rfl) (nt := 157) (by kernel_rfl) (by kernel_rfl) (T := [(0, .sl (List.map I ty0)), (1, .agg [.int .i64 v1.fOp, .int .i64 v1.fN, .sl (List.map I v1.fType), .sl (List.map GTerm_S v1.fKids)])]) (O := []) (by kernel_rfl) (by kernel_rfl) (fun c hc => ?_)
  refine Wp.seqN (by kernel_rfl) ?_
  refine Wp.reg tiok mix hc (by kernel_rfl) (ah := none) (rs := [some (.new 1), some (.no)]) (kt := [0, 3]) (ko := [1]) (T' := [(0, .sl (List.map I ty0)), (3, .ra 1 0)]) (O' := [(1, .box [.int .i64 v1.fOp, .int .i64 v1.fN, .sl (List.map I v1.fType), .sl (List.map GTerm_S v1.fKids)])]) (by kernel_rfl) trivial (by kernel_rfl) (by kernel_rfl) ?_
  refine seqQ_norm ?_
  refine Wp.seqN (by kernel_rfl) ?_
  obtain ⟨e_1_1, hi_1_1, h⟩ := bsome h
  obtain ⟨⟨r_1_3_0, r_1_3_1⟩, hr_1_3, h⟩ := bsome h
  refine Wp.reg tiok mix hc (by kernel_rfl) (ah := none) (rs := [some (.no), some (.el (.int .i64 e_1_1)), some (.no), some (.call (.tup [.int .i64 r_1_3_0, .int .i64 r_1_3_1]) [] 1), some (.no), some (.no), some (.no), some (.no), some (.no)]) (kt := [0, 3, 5, 6]) (ko := [1]) (T' := [(0, .sl (List.map I ty0)), (3, .ra 1 0), (5, .int .i64 r_1_3_0), (6, .int .i64 r_1_3_1)]) (O' := [(1, .box [.int .i64 v1.fOp, .int .i64 v1.fN, .sl (List.map I v1.fType), .sl (List.map GTerm_S v1.fKids)])]) (by kernel_rfl) (And.intro (idx_sl (enc := I) (x := .int .i64 e_1_1) hi_1_1 (eq_I e_1_1)) (And.intro (impl_shape_s _ _ hr_1_3) (And.intro bod_103 (And.intro (Or.inl rfl : ([] : List Nat) = [] ∨ noSh (.tup [.int .i64 r_1_3_0, .int .i64 r_1_3_1]) = true) trivial)))) (by kernel_rfl) (by kernel_rfl) ?_
  refine seqQ_norm ?_
  refine Wp.seqN (by kernel_rfl) ?_
  obtain ⟨r_2_1, hr_2_1, h⟩ := bsome h
  refine Wp.reg tiok mix hc (by kernel_rfl) (ah := none) (rs := [some (.no), some (.call (.osl (List.map LI_s r_2_1)) [] 2), some (.no)]) (kt := [3, 5, 6, 7]) (ko := [1, 2]) (T' := [(3, .ra 1 0), (5, .int .i64 r_1_3_0), (6, .int .i64 r_1_3_1), (7, .rs 2)]) (O' := [(1, .box [.int .i64 v1.fOp, .int .i64 v1.fN, .sl (List.map I v1.fType), .sl (List.map GTerm_S v1.fKids)]), (2, .arr (List.map LI_s r_2_1))]) (by kernel_rfl) (And.intro (impl_parts_s _ _ hr_2_1) (And.intro bod_104 (And.intro (Or.inl rfl : ([] : List Nat) = [] ∨ noSh (.osl (List.map LI_s r_2_1)) = true) trivial))) (by kernel_rfl) (by kernel_rfl) ?_
  refine seqQ_norm ?_
  refine Wp.seqN (by kernel_rfl) ?_
  refine Wp.seqN (by kernel_rfl) ?_
  refine Wp.reg tiok mix hc (by kernel_rfl) (ah := none) (rs := [some (.no)]) (kt := [3, 6, 7, 18]) (ko := [1, 2]) (T' := [(3, .ra 1 0), (6, .int .i64 r_1_3_1), (7, .rs 2), (18, .int .i64 r_1_3_0)]) (O' := [(1, .box [.int .i64 v1.fOp, .int .i64 v1.fN, .sl (List.map I v1.fType), .sl (List.map GTerm_S v1.fKids)]), (2, .arr (List.map LI_s r_2_1))]) (by kernel_rfl) trivial (by kernel_rfl) (by kernel_rfl) ?_
  refine seqQ_norm ?_
  refine Wp.blockN (i := 0) (by kernel_rfl) ?_
  refine Wp.seqN (by kernel_rfl) ?_
  refine Wp.reg tiok mix hc (by kernel_rfl) (ah := none) (rs := [some (.no), some (.no)]) (kt := [3, 6, 7, 18, 19]) (ko := [1, 2]) (T' := [(3, .ra 1 0), (6, .int .i64 r_1_3_1), (7, .rs 2), (18, .int .i64 r_1_3_0), (19, .bool (r_1_3_0 == 0))]) (O' := [(1, .box [.int .i64 v1.fOp, .int .i64 v1.fN, .sl (List.map I v1.fType), .sl (List.map GTerm_S v1.fKids)]), (2, .arr (List.map LI_s r_2_1))]) (by kernel_rfl) trivial (by kernel_rfl) (by kernel_rfl) ?_
  refine seqQ_norm ?_
  rcases itesome h with ⟨hb_1, h⟩ | ⟨hb_1, h⟩
  · refine Wp.condT (b := (r_1_3_0 == 0)) (by kernel_rfl) (by kernel_rfl) hb_1 ?_
    refine Wp.seqN (by kernel_rfl) ?_
    obtain ⟨v_2, hj_3, h⟩ := bsome h
    refine Wp.into (x := .normal) (mkS [(4, .bool v_2)] []) ?_ ?_
    · replace h := hj_3
      rcases itesome h with ⟨hb_5_0, h⟩ | ⟨hb_5_0, h⟩
      · obtain ⟨r_5_6, hr_5_6, h⟩ := bsome h
        rcases itesome h with ⟨hb_5_1, h⟩ | ⟨hb_5_1, h⟩
        · rcases itesome h with ⟨hb_5_2, h⟩ | ⟨hb_5_2, h⟩
          · refine Wp.reg tiok mix hc (by kernel_rfl) (ah := none) (rs := [some (.no), some (.no), some (.no), some (.no), some (.no), some (.no), some (.call (.bool r_5_6) [] 1), some (.cond true), some (.no), some (.no), some (.no), some (.eqv (.no) ⟨[(32, .int .i64 (v1.fType.length : Int))], [], []⟩), some (.no), some (.cond true), some (.no), some (.no), some (.no), some (.eqv (.no) ⟨[(38, .int .i64 (v1.fKids.length : Int))], [], []⟩), some (.no), some (.cond true), some (.no)]) (kt := [4]) (ko := []) (T' := [(4, .bool ((v1.fKids.length : Int) == 0))]) (O' := []) (by kernel_rfl) (And.intro hb_5_0 (And.intro hb_5_0 (And.intro hb_5_0 (And.intro (impl_within_s _ _ hr_5_6) (And.intro bod_64 (And.intro (Or.inl rfl : ([] : List Nat) = [] ∨ noSh (.bool r_5_6) = true) (And.intro hb_5_0 (And.intro hb_5_1 (And.intro hb_5_1 (And.intro hb_5_1 (And.intro (lenT (d := 32) I v1.fType) (And.intro hb_5_1 (And.intro hb_5_1 (And.intro hb_5_2 (And.intro hb_5_2 (And.intro hb_5_2 (And.intro (lenT (d := 38) GTerm_S v1.fKids) (And.intro hb_5_2 (And.intro hb_5_2 trivial))))))))))))))))))) (by kernel_rfl) (by kernel_rfl) ?_
            obtain rfl := Option.some.inj h
            exact Into.mk
          · refine Wp.reg tiok mix hc (by kernel_rfl) (ah := none) (rs := [some (.no), some (.no), some (.no), some (.no), some (.no), some (.no), some (.call (.bool r_5_6) [] 1), some (.cond true), some (.no), some (.no), some (.no), some (.eqv (.no) ⟨[(32, .int .i64 (v1.fType.length : Int))], [], []⟩), some (.no), some (.cond true), some (.no), none, none, none, none, some (.cond false), some (.no)]) (kt := [4]) (ko := []) (T' := [(4, .bool false)]) (O' := []) (by kernel_rfl) (And.intro hb_5_0 (And.intro hb_5_0 (And.intro hb_5_0 (And.intro (impl_within_s _ _ hr_5_6) (And.intro bod_64 (And.intro (Or.inl rfl : ([] : List Nat) = [] ∨ noSh (.bool r_5_6) = true) (And.intro hb_5_0 (And.intro hb_5_1 (And.intro hb_5_1 (And.intro hb_5_1 (And.intro (lenT (d := 32) I v1.fType) (And.intro hb_5_1 (And.intro hb_5_1 (And.intro (neT hb_5_2 : ((v1.fType.length : Int) == 0) ≠ true) (And.intro (neT hb_5_2 : ((v1.fType.length : Int) == 0) ≠ true) (And.intro (neT hb_5_2 : ((v1.fType.length : Int) == 0) ≠ true) (And.intro (neT hb_5_2 : ((v1.fType.length : Int) == 0) ≠ true) (And.intro hb_5_2 trivial)))))))))))))))))) (by kernel_rfl) (by kernel_rfl) ?_
            obtain rfl := Option.some.inj h
            exact Into.mk
        · refine Wp.reg tiok mix hc (by kernel_rfl) (ah := none) (rs := [some (.no), some (.no), some (.no), some (.no), some (.no), some (.no), some (.call (.bool r_5_6) [] 1), some (.cond true), some (.no), none, none, none, none, some (.cond false), some (.no), none, none, none, none, some (.cond false), some (.no)]) (kt := [4]) (ko := []) (T' := [(4, .bool false)]) (O' := []) (by kernel_rfl) (And.intro hb_5_0 (And.intro hb_5_0 (And.intro hb_5_0 (And.intro (impl_within_s _ _ hr_5_6) (And.intro bod_64 (And.intro (Or.inl rfl : ([] : List Nat) = [] ∨ noSh (.bool r_5_6) = true) (And.intro hb_5_0 (And.intro (neT hb_5_1 : r_5_6 ≠ true) (And.intro (neT hb_5_1 : r_5_6 ≠ true) (And.intro (neT hb_5_1 : r_5_6 ≠ true) (And.intro (neT hb_5_1 : r_5_6 ≠ true) (And.intro hb_5_1 (And.intro (neT (rfl : false = false) : false ≠ true) (And.intro (neT (rfl : false = false) : false ≠ true) (And.intro (neT (rfl : false = false) : false ≠ true) (And.intro (neT (rfl : false = false) : false ≠ true) (And.intro (rfl : false = false) trivial))))))))))))))))) (by kernel_rfl) (by kernel_rfl) ?_
          obtain rfl := Option.some.inj h
          exact Into.mk
      · refine Wp.reg tiok mix hc (by kernel_rfl) (ah := none) (rs := [some (.no), some (.no), some (.no), some (.no), none, none, none, some (.cond false), some (.no), none, none, none, none, some (.cond false), some (.no), none, none, none, none, some (.cond false), some (.no)]) (kt := [4]) (ko := []) (T' := [(4, .bool false)]) (O' := []) (by kernel_rfl) (And.intro (neT hb_5_0 : (v1.fOp == 1) ≠ true) (And.intro (neT hb_5_0 : (v1.fOp == 1) ≠ true) (And.intro (neT hb_5_0 : (v1.fOp == 1) ≠ true) (And.intro hb_5_0 (And.intro (neT (rfl : false = false) : false ≠ true) (And.intro (neT (rfl : false = false) : false ≠ true) (And.intro (neT (rfl : false = false) : false ≠ true) (And.intro (neT (rfl : false = false) : false ≠ true) (And.intro (rfl : false = false) (And.intro (neT (rfl : false = false) : false ≠ true) (And.intro (neT (rfl : false = false) : false ≠ true) (And.intro (neT (rfl : false = false) : false ≠ true) (And.intro (neT (rfl : false = false) : false ≠ true) (And.intro (rfl : false = false) trivial)))))))))))))) (by kernel_rfl) (by kernel_rfl) ?_
        obtain rfl := Option.some.inj h
        exact Into.mk
    · clear hj_3
      refine seqQ_norm ?_
      refine Wp.retN (by kernel_rfl) ?_
      refine blockQ_ret ?_
      refine seqQ_ret ?_
      obtain rfl := Option.some.inj h
      exact RetQ.ret (fl := [true]) (by kernel_rfl)
  · refine Wp.condF (b := (r_1_3_0 == 0)) (by kernel_rfl) (by kernel_rfl) hb_1 ?_
    refine Wp.seqN (by kernel_rfl) ?_
    refine Wp.reg tiok mix hc (by kernel_rfl) (ah := none) (rs := [some (.no), some (.no)]) (kt := [3, 6, 7, 18, 41]) (ko := [1, 2]) (T' := [(3, .ra 1 0), (6, .int .i64 r_1_3_1), (7, .rs 2), (18, .int .i64 r_1_3_0), (41, .bool (r_1_3_0 == 1))]) (O' := [(1, .box [.int .i64 v1.fOp, .int .i64 v1.fN, .sl (List.map I v1.fType), .sl (List.map GTerm_S v1.fKids)]), (2, .arr (List.map LI_s r_2_1))]) (by kernel_rfl) trivial (by kernel_rfl) (by kernel_rfl) ?_
    refine seqQ_norm ?_
    rcases itesome h with ⟨hb_4, h⟩ | ⟨hb_4, h⟩
    · refine Wp.condT (b := (r_1_3_0 == 1)) (by kernel_rfl) (by kernel_rfl) hb_4 ?_
      refine Wp.seqN (by kernel_rfl) ?_
      obtain ⟨v_5, hj_6, h⟩ := bsome h
      refine Wp.into (x := .normal) (mkS [(4, .bool v_5)] []) ?_ ?_
      · replace h := hj_6
        rcases itesome h with ⟨hb_7_0, h⟩ | ⟨hb_7_0, h⟩
        · rcases itesome h with ⟨hb_7_1, h⟩ | ⟨hb_7_1, h⟩
          · rcases itesome h with ⟨hb_7_2, h⟩ | ⟨hb_7_2, h⟩
            · rcases itesome h with ⟨hb_7_3, h⟩ | ⟨hb_7_3, h⟩
              · obtain ⟨e_7_22, hi_7_22, h⟩ := bsome h
                obtain ⟨e_7_26, hi_7_26, h⟩ := bsome h
                obtain ⟨r_7_28, hr_7_28, h⟩ := bsome h
                rcases itesome h with ⟨hb_7_4, h⟩ | ⟨hb_7_4, h⟩
                · obtain ⟨e_7_32, hi_7_32, h⟩ := bsome h
                  obtain ⟨e_7_36, hi_7_36, h⟩ := bsome h
                  obtain ⟨r_7_38, hr_7_38, h⟩ := bsome h
                  refine Wp.reg tiok mix hc (by kernel_rfl) (ah := (some [[], [0], [0, 1], [0, 1, 2], [0, 1, 2, 3], [0, 1, 2, 3, 4], [0, 1, 2, 3, 4, 5], [0, 1, 2, 3, 4, 5, 6], [0, 1, 2, 3, 4, 5, 6, 7], [0, 1, 2, 3, 4, 5, 6, 7, 8], [0, 1, 2, 3, 4, 5, 6, 7, 8, 9], [0, 1, 2, 3, 4, 5, 6, 7, 8, 9, 10], [0, 1, 2, 3, 4, 5, 6, 7, 8, 9, 10, 11], [0, 1, 2, 3, 4, 5, 6, 7, 8, 9, 10, 11, 12], [0, 1, 2, 3, 4, 5, 6, 7, 8, 9, 10, 11, 12, 13], [0, 1, 2, 3, 4, 5, 6, 7, 8, 9, 10, 11, 12, 13, 14], [0, 1, 2, 3, 4, 5, 6, 7, 8, 9, 10, 11, 12, 13, 14, 15], [0, 1, 2, 3, 4, 5, 6, 7, 8, 9, 10, 11, 12, 13, 14, 15, 16], [0, 1, 2, 3, 4, 5, 6, 7, 8, 9, 10, 11, 12, 13, 14, 15, 16, 17], [0, 1, 2, 3, 4, 5, 6, 7, 8, 9, 10, 11, 12, 13, 14, 15, 16, 17, 18], [0, 1, 2, 3, 4, 5, 6, 7, 8, 9, 10, 11, 12, 13, 14, 15, 16, 17, 18, 19], [0, 1, 2, 3, 4, 5, 6, 7, 8, 9, 10, 11, 12, 13, 14, 15, 16, 17, 18, 19, 20], [0, 1, 2, 3, 4, 5, 6, 7, 8, 9, 10, 11, 12, 13, 14, 15, 16, 17, 18, 19, 20, 21], [0, 1, 2, 3, 4, 5, 6, 7, 8, 9, 10, 11, 12, 13, 14, 15, 16, 17, 18, 19, 20, 21, 22], [0, 1, 2, 3, 4, 5, 6, 7, 8, 9, 10, 11, 12, 13, 14, 15, 16, 17, 18, 19, 20], [0, 1, 2, 3, 4, 5, 6, 7, 8, 9, 10, 11, 12, 13, 14, 15, 16, 17, 18, 19, 20, 24], [0, 1, 2, 3, 4, 5, 6, 7, 8, 9, 10, 11, 12, 13, 14, 15, 16, 17, 18, 19, 20, 24, 25], [0, 1, 2, 3, 4, 5, 6, 7, 8, 9, 10, 11, 12, 13, 14, 15, 16, 17, 18, 19, 20, 24, 25, 26], [0, 1, 2, 3, 4, 5, 6, 7, 8, 9, 10, 11, 12, 13, 14, 15, 16, 17, 18, 19, 20, 21, 22, 23, 24, 25, 26, 27], [0, 1, 2, 3, 4, 5, 6, 7, 8, 9, 10, 11, 12, 13, 14, 15, 16, 17, 18, 19, 20, 21, 22, 23, 24, 25, 26, 27, 28], [0, 1, 2, 3, 4, 5, 6, 7, 8, 9, 10, 11, 12, 13, 14, 15, 16, 17, 18, 19, 20, 21, 22, 23, 24, 25, 26, 27, 28, 29], [0, 1, 2, 3, 4, 5, 6, 7, 8, 9, 10, 11, 12, 13, 14, 15, 16, 17, 18, 19, 20, 21, 22, 23, 24, 25, 26, 27, 28, 29, 30], [0, 1, 2, 3, 4, 5, 6, 7, 8, 9, 10, 11, 12, 13, 14, 15, 16, 17, 18, 19, 20, 21, 22, 23, 24, 25, 26, 27, 28, 29, 30, 31], [0, 1, 2, 3, 4, 5, 6, 7, 8, 9, 10, 11, 12, 13, 14, 15, 16, 17, 18, 19, 20, 21, 22, 23, 24, 25, 26, 27, 28, 29, 30, 31, 32], [0, 1, 2, 3, 4, 5, 6, 7, 8, 9, 10, 11, 12, 13, 14, 15, 16, 17, 18, 19, 20, 21, 22, 23, 24, 25, 26, 27, 28, 29, 30], [0, 1, 2, 3, 4, 5, 6, 7, 8, 9, 10, 11, 12, 13, 14, 15, 16, 17, 18, 19, 20, 21, 22, 23, 24, 25, 26, 27, 28, 29, 30, 34], [0, 1, 2, 3, 4, 5, 6, 7, 8, 9, 10, 11, 12, 13, 14, 15, 16, 17, 18, 19, 20, 21, 22, 23, 24, 25, 26, 27, 28, 29, 30, 34, 35], [0, 1, 2, 3, 4, 5, 6, 7, 8, 9, 10, 11, 12, 13, 14, 15, 16, 17, 18, 19, 20, 21, 22, 23, 24, 25, 26, 27, 28, 29, 30, 34, 35, 36], [0, 1, 2, 3, 4, 5, 6, 7, 8, 9, 10, 11, 12, 13, 14, 15, 16, 17, 18, 19, 20, 21, 22, 23, 24, 25, 26, 27, 28, 29, 30, 31, 32, 33, 34, 35, 36, 37], [0, 1, 2, 3, 4, 5, 6, 7, 8, 9, 10, 11, 12, 13, 14, 15, 16, 17, 18, 19, 20, 21, 22, 23, 24, 25, 26, 27, 28, 29, 30, 31, 32, 33, 34, 35, 36, 37, 38], [0, 1, 2, 3, 4, 5, 6, 7, 8, 9, 10, 11, 12, 13, 14, 15, 16, 17, 18, 19, 20, 21, 22, 23, 24, 25, 26, 27, 28, 29, 30, 31, 32, 33, 34, 35, 36, 37, 38, 39]])) (rs := [some (.no), some (.no), some (.no), some (.no), some (.no), some (.no), some (.no), some (.cond true), some (.no), some (.no), some (.no), some (.eqv (.no) ⟨[(54, .int .i64 (v1.fType.length : Int))], [], []⟩), some (.no), some (.cond true), some (.no), some (.no), some (.no), some (.eqv (.no) ⟨[(60, .int .i64 (v1.fKids.length : Int))], [], []⟩), some (.no), some (.cond true), some (.no), some (.no), some (.no), some (.el (.sl (List.map I e_7_22))), some (.no), some (.no), some (.el (.agg [.int .i64 e_7_26.fOp, .int .i64 e_7_26.fN, .sl (List.map I e_7_26.fType), .sl (List.map GTerm_S e_7_26.fKids)])), some (.no), some (.call (.bool r_7_28) [] 1), some (.cond true), some (.no), some (.no), some (.no), some (.el (.sl (List.map I e_7_32))), some (.no), some (.no), some (.el (.agg [.int .i64 e_7_36.fOp, .int .i64 e_7_36.fN, .sl (List.map I e_7_36.fType), .sl (List.map GTerm_S e_7_36.fKids)])), some (.no), some (.call (.bool r_7_38) [] 1), some (.cond true), some (.no)]) (kt := [4]) (ko := []) (T' := [(4, .bool r_7_38)]) (O' := []) (by kernel_rfl) (And.intro hb_7_0 (And.intro hb_7_0 (And.intro hb_7_0 (And.intro hb_7_0 (And.intro hb_7_1 (And.intro hb_7_1 (And.intro hb_7_1 (And.intro (lenT (d := 54) I v1.fType) (And.intro hb_7_1 (And.intro hb_7_1 (And.intro hb_7_2 (And.intro hb_7_2 (And.intro hb_7_2 (And.intro (lenT (d := 60) GTerm_S v1.fKids) (And.intro hb_7_2 (And.intro hb_7_2 (And.intro hb_7_3 (And.intro hb_7_3 (And.intro (idx_own (enc := LI_s) hi_7_22) (And.intro hb_7_3 (And.intro (idx_sl (enc := LI_s) (x := .sl (List.map I e_7_22)) hi_7_22 (eq_LI_s e_7_22)).2 (And.intro hb_7_3 (And.intro hb_7_3 (And.intro hb_7_3 (And.intro (idx_sl (enc := GTerm_S) (x := .agg [.int .i64 e_7_26.fOp, .int .i64 e_7_26.fN, .sl (List.map I e_7_26.fType), .sl (List.map GTerm_S e_7_26.fKids)]) hi_7_26 (eq_GTerm_S e_7_26)) (And.intro hb_7_3 (And.intro hb_7_3 (And.intro (impl_isValue_ih _ _ hr_7_28) (And.intro bod_76 (And.intro (Or.inl rfl : ([] : List Nat) = [] ∨ noSh (.bool r_7_28) = true) (And.intro hb_7_3 (And.intro hb_7_4 (And.intro hb_7_4 (And.intro (idx_own (enc := LI_s) hi_7_32) (And.intro hb_7_4 (And.intro (idx_sl (enc := LI_s) (x := .sl (List.map I e_7_32)) hi_7_32 (eq_LI_s e_7_32)).2 (And.intro hb_7_4 (And.intro hb_7_4 (And.intro hb_7_4 (And.intro (idx_sl (enc := GTerm_S) (x := .agg [.int .i64 e_7_36.fOp, .int .i64 e_7_36.fN, .sl (List.map I e_7_36.fType), .sl (List.map GTerm_S e_7_36.fKids)]) hi_7_36 (eq_GTerm_S e_7_36)) (And.intro hb_7_4 (And.intro hb_7_4 (And.intro (impl_isValue_ih _ _ hr_7_38) (And.intro bod_76 (And.intro (Or.inl rfl : ([] : List Nat) = [] ∨ noSh (.bool r_7_38) = true) (And.intro hb_7_4 trivial)))))))))))))))))))))))))))))))))))))))))))))) (by kernel_rfl) (by kernel_rfl) ?_
                  obtain rfl := Option.some.inj h
                  exact Into.mk
                · refine Wp.reg tiok mix hc (by kernel_rfl) (ah := (some [[], [0], [0, 1], [0, 1, 2], [0, 1, 2, 3], [0, 1, 2, 3, 4], [0, 1, 2, 3, 4, 5], [0, 1, 2, 3, 4, 5, 6], [0, 1, 2, 3, 4, 5, 6, 7], [0, 1, 2, 3, 4, 5, 6, 7, 8], [0, 1, 2, 3, 4, 5, 6, 7, 8, 9], [0, 1, 2, 3, 4, 5, 6, 7, 8, 9, 10], [0, 1, 2, 3, 4, 5, 6, 7, 8, 9, 10, 11], [0, 1, 2, 3, 4, 5, 6, 7, 8, 9, 10, 11, 12], [0, 1, 2, 3, 4, 5, 6, 7, 8, 9, 10, 11, 12, 13], [0, 1, 2, 3, 4, 5, 6, 7, 8, 9, 10, 11, 12, 13, 14], [0, 1, 2, 3, 4, 5, 6, 7, 8, 9, 10, 11, 12, 13, 14, 15], [0, 1, 2, 3, 4, 5, 6, 7, 8, 9, 10, 11, 12, 13, 14, 15, 16], [0, 1, 2, 3, 4, 5, 6, 7, 8, 9, 10, 11, 12, 13, 14, 15, 16, 17], [0, 1, 2, 3, 4, 5, 6, 7, 8, 9, 10, 11, 12, 13, 14, 15, 16, 17, 18], [0, 1, 2, 3, 4, 5, 6, 7, 8, 9, 10, 11, 12, 13, 14, 15, 16, 17, 18, 19], [0, 1, 2, 3, 4, 5, 6, 7, 8, 9, 10, 11, 12, 13, 14, 15, 16, 17, 18, 19, 20], [0, 1, 2, 3, 4, 5, 6, 7, 8, 9, 10, 11, 12, 13, 14, 15, 16, 17, 18, 19, 20, 21], [0, 1, 2, 3, 4, 5, 6, 7, 8, 9, 10, 11, 12, 13, 14, 15, 16, 17, 18, 19, 20, 21, 22], [0, 1, 2, 3, 4, 5, 6, 7, 8, 9, 10, 11, 12, 13, 14, 15, 16, 17, 18, 19, 20], [0, 1, 2, 3, 4, 5, 6, 7, 8, 9, 10, 11, 12, 13, 14, 15, 16, 17, 18, 19, 20, 24], [0, 1, 2, 3, 4, 5, 6, 7, 8, 9, 10, 11, 12, 13, 14, 15, 16, 17, 18, 19, 20, 24, 25], [0, 1, 2, 3, 4, 5, 6, 7, 8, 9, 10, 11, 12, 13, 14, 15, 16, 17, 18, 19, 20, 24, 25, 26], [0, 1, 2, 3, 4, 5, 6, 7, 8, 9, 10, 11, 12, 13, 14, 15, 16, 17, 18, 19, 20, 21, 22, 23, 24, 25, 26, 27], [0, 1, 2, 3, 4, 5, 6, 7, 8, 9, 10, 11, 12, 13, 14, 15, 16, 17, 18, 19, 20, 21, 22, 23, 24, 25, 26, 27, 28], [0, 1, 2, 3, 4, 5, 6, 7, 8, 9, 10, 11, 12, 13, 14, 15, 16, 17, 18, 19, 20, 21, 22, 23, 24, 25, 26, 27, 28, 29], [0, 1, 2, 3, 4, 5, 6, 7, 8, 9, 10, 11, 12, 13, 14, 15, 16, 17, 18, 19, 20, 21, 22, 23, 24, 25, 26, 27, 28, 29, 30], [0, 1, 2, 3, 4, 5, 6, 7, 8, 9, 10, 11, 12, 13, 14, 15, 16, 17, 18, 19, 20, 21, 22, 23, 24, 25, 26, 27, 28, 29, 30, 31], [0, 1, 2, 3, 4, 5, 6, 7, 8, 9, 10, 11, 12, 13, 14, 15, 16, 17, 18, 19, 20, 21, 22, 23, 24, 25, 26, 27, 28, 29, 30, 31, 32], [0, 1, 2, 3, 4, 5, 6, 7, 8, 9, 10, 11, 12, 13, 14, 15, 16, 17, 18, 19, 20, 21, 22, 23, 24, 25, 26, 27, 28, 29, 30], [0, 1, 2, 3, 4, 5, 6, 7, 8, 9, 10, 11, 12, 13, 14, 15, 16, 17, 18, 19, 20, 21, 22, 23, 24, 25, 26, 27, 28, 29, 30, 34], [0, 1, 2, 3, 4, 5, 6, 7, 8, 9, 10, 11, 12, 13, 14, 15, 16, 17, 18, 19, 20, 21, 22, 23, 24, 25, 26, 27, 28, 29, 30, 34, 35], [0, 1, 2, 3, 4, 5, 6, 7, 8, 9, 10, 11, 12, 13, 14, 15, 16, 17, 18, 19, 20, 21, 22, 23, 24, 25, 26, 27, 28, 29, 30, 34, 35, 36], [0, 1, 2, 3, 4, 5, 6, 7, 8, 9, 10, 11, 12, 13, 14, 15, 16, 17, 18, 19, 20, 21, 22, 23, 24, 25, 26, 27, 28, 29, 30, 31, 32, 33, 34, 35, 36, 37], [0, 1, 2, 3, 4, 5, 6, 7, 8, 9, 10, 11, 12, 13, 14, 15, 16, 17, 18, 19, 20, 21, 22, 23, 24, 25, 26, 27, 28, 29, 30, 31, 32, 33, 34, 35, 36, 37, 38], [0, 1, 2, 3, 4, 5, 6, 7, 8, 9, 10, 11, 12, 13, 14, 15, 16, 17, 18, 19, 20, 21, 22, 23, 24, 25, 26, 27, 28, 29, 30, 31, 32, 33, 34, 35, 36, 37, 38, 39]])) (rs := [some (.no), some (.no), some (.no), some (.no), some (.no), some (.no), some (.no), some (.cond true), some (.no), some (.no), some (.no), some (.eqv (.no) ⟨[(54, .int .i64 (v1.fType.length : Int))], [], []⟩), some (.no), some (.cond true), some (.no), some (.no), some (.no), some (.eqv (.no) ⟨[(60, .int .i64 (v1.fKids.length : Int))], [], []⟩), some (.no), some (.cond true), some (.no), some (.no), some (.no), some (.el (.sl (List.map I e_7_22))), some (.no), some (.no), some (.el (.agg [.int .i64 e_7_26.fOp, .int .i64 e_7_26.fN, .sl (List.map I e_7_26.fType), .sl (List.map GTerm_S e_7_26.fKids)])), some (.no), some (.call (.bool r_7_28) [] 1), some (.cond true), some (.no), none, none, none, none, none, none, none, none, some (.cond false), some (.no)]) (kt := [4]) (ko := []) (T' := [(4, .bool false)]) (O' := []) (by kernel_rfl) (And.intro hb_7_0 (And.intro hb_7_0 (And.intro hb_7_0 (And.intro hb_7_0 (And.intro hb_7_1 (And.intro hb_7_1 (And.intro hb_7_1 (And.intro (lenT (d := 54) I v1.fType) (And.intro hb_7_1 (And.intro hb_7_1 (And.intro hb_7_2 (And.intro hb_7_2 (And.intro hb_7_2 (And.intro (lenT (d := 60) GTerm_S v1.fKids) (And.intro hb_7_2 (And.intro hb_7_2 (And.intro hb_7_3 (And.intro hb_7_3 (And.intro (idx_own (enc := LI_s) hi_7_22) (And.intro hb_7_3 (And.intro (idx_sl (enc := LI_s) (x := .sl (List.map I e_7_22)) hi_7_22 (eq_LI_s e_7_22)).2 (And.intro hb_7_3 (And.intro hb_7_3 (And.intro hb_7_3 (And.intro (idx_sl (enc := GTerm_S) (x := .agg [.int .i64 e_7_26.fOp, .int .i64 e_7_26.fN, .sl (List.map I e_7_26.fType), .sl (List.map GTerm_S e_7_26.fKids)]) hi_7_26 (eq_GTerm_S e_7_26)) (And.intro hb_7_3 (And.intro hb_7_3 (And.intro (impl_isValue_ih _ _ hr_7_28) (And.intro bod_76 (And.intro (Or.inl rfl : ([] : List Nat) = [] ∨ noSh (.bool r_7_28) = true) (And.intro hb_7_3 (And.intro (neT hb_7_4 : r_7_28 ≠ true) (And.intro (neT hb_7_4 : r_7_28 ≠ true) (And.intro (neT hb_7_4 : r_7_28 ≠ true) (And.intro (neT hb_7_4 : r_7_28 ≠ true) (And.intro (neT hb_7_4 : r_7_28 ≠ true) (And.intro (neT hb_7_4 : r_7_28 ≠ true) (And.intro (neT hb_7_4 : r_7_28 ≠ true) (And.intro (neT hb_7_4 : r_7_28 ≠ true) (And.intro hb_7_4 trivial)))))))))))))))))))))))))))))))))))))))) (by kernel_rfl) (by kernel_rfl) ?_
                  obtain rfl := Option.some.inj h
                  exact Into.mk
              · refine Wp.reg tiok mix hc (by kernel_rfl) (ah := (some [[], [0], [0, 1], [0, 1, 2], [0, 1, 2, 3], [0, 1, 2, 3, 4], [0, 1, 2, 3, 4, 5], [0, 1, 2, 3, 4, 5, 6], [0, 1, 2, 3, 4, 5, 6, 7], [0, 1, 2, 3, 4, 5, 6, 7, 8], [0, 1, 2, 3, 4, 5, 6, 7, 8, 9], [0, 1, 2, 3, 4, 5, 6, 7, 8, 9, 10], [0, 1, 2, 3, 4, 5, 6, 7, 8, 9, 10, 11], [0, 1, 2, 3, 4, 5, 6, 7, 8, 9, 10, 11, 12], [0, 1, 2, 3, 4, 5, 6, 7, 8, 9, 10, 11, 12, 13], [0, 1, 2, 3, 4, 5, 6, 7, 8, 9, 10, 11, 12, 13, 14], [0, 1, 2, 3, 4, 5, 6, 7, 8, 9, 10, 11, 12, 13, 14, 15], [0, 1, 2, 3, 4, 5, 6, 7, 8, 9, 10, 11, 12, 13, 14, 15, 16], [0, 1, 2, 3, 4, 5, 6, 7, 8, 9, 10, 11, 12, 13, 14, 15, 16, 17], [0, 1, 2, 3, 4, 5, 6, 7, 8, 9, 10, 11, 12, 13, 14, 15, 16, 17, 18], [0, 1, 2, 3, 4, 5, 6, 7, 8, 9, 10, 11, 12, 13, 14, 15, 16, 17, 18, 19], [0, 1, 2, 3, 4, 5, 6, 7, 8, 9, 10, 11, 12, 13, 14, 15, 16, 17, 18, 19, 20], [0, 1, 2, 3, 4, 5, 6, 7, 8, 9, 10, 11, 12, 13, 14, 15, 16, 17, 18, 19, 20, 21], [0, 1, 2, 3, 4, 5, 6, 7, 8, 9, 10, 11, 12, 13, 14, 15, 16, 17, 18, 19, 20, 21, 22], [0, 1, 2, 3, 4, 5, 6, 7, 8, 9, 10, 11, 12, 13, 14, 15, 16, 17, 18, 19, 20], [0, 1, 2, 3, 4, 5, 6, 7, 8, 9, 10, 11, 12, 13, 14, 15, 16, 17, 18, 19, 20, 24], [0, 1, 2, 3, 4, 5, 6, 7, 8, 9, 10, 11, 12, 13, 14, 15, 16, 17, 18, 19, 20, 24, 25], [0, 1, 2, 3, 4, 5, 6, 7, 8, 9, 10, 11, 12, 13, 14, 15, 16, 17, 18, 19, 20, 24, 25, 26], [0, 1, 2, 3, 4, 5, 6, 7, 8, 9, 10, 11, 12, 13, 14, 15, 16, 17, 18, 19, 20, 21, 22, 23, 24, 25, 26, 27], [0, 1, 2, 3, 4, 5, 6, 7, 8, 9, 10, 11, 12, 13, 14, 15, 16, 17, 18, 19, 20, 21, 22, 23, 24, 25, 26, 27, 28], [0, 1, 2, 3, 4, 5, 6, 7, 8, 9, 10, 11, 12, 13, 14, 15, 16, 17, 18, 19, 20, 21, 22, 23, 24, 25, 26, 27, 28, 29], [0, 1, 2, 3, 4, 5, 6, 7, 8, 9, 10, 11, 12, 13, 14, 15, 16, 17, 18, 19, 20, 21, 22, 23, 24, 25, 26, 27, 28, 29, 30], [0, 1, 2, 3, 4, 5, 6, 7, 8, 9, 10, 11, 12, 13, 14, 15, 16, 17, 18, 19, 20, 21, 22, 23, 24, 25, 26, 27, 28, 29, 30, 31], [0, 1, 2, 3, 4, 5, 6, 7, 8, 9, 10, 11, 12, 13, 14, 15, 16, 17, 18, 19, 20, 21, 22, 23, 24, 25, 26, 27, 28, 29, 30, 31, 32], [0, 1, 2, 3, 4, 5, 6, 7, 8, 9, 10, 11, 12, 13, 14, 15, 16, 17, 18, 19, 20, 21, 22, 23, 24, 25, 26, 27, 28, 29, 30], [0, 1, 2, 3, 4, 5, 6, 7, 8, 9, 10, 11, 12, 13, 14, 15, 16, 17, 18, 19, 20, 21, 22, 23, 24, 25, 26, 27, 28, 29, 30, 34], [0, 1, 2, 3, 4, 5, 6, 7, 8, 9, 10, 11, 12, 13, 14, 15, 16, 17, 18, 19, 20, 21, 22, 23, 24, 25, 26, 27, 28, 29, 30, 34, 35], [0, 1, 2, 3, 4, 5, 6, 7, 8, 9, 10, 11, 12, 13, 14, 15, 16, 17, 18, 19, 20, 21, 22, 23, 24, 25, 26, 27, 28, 29, 30, 34, 35, 36], [0, 1, 2, 3, 4, 5, 6, 7, 8, 9, 10, 11, 12, 13, 14, 15, 16, 17, 18, 19, 20, 21, 22, 23, 24, 25, 26, 27, 28, 29, 30, 31, 32, 33, 34, 35, 36, 37], [0, 1, 2, 3, 4, 5, 6, 7, 8, 9, 10, 11, 12, 13, 14, 15, 16, 17, 18, 19, 20, 21, 22, 23, 24, 25, 26, 27, 28, 29, 30, 31, 32, 33, 34, 35, 36, 37, 38], [0, 1, 2, 3, 4, 5, 6, 7, 8, 9, 10, 11, 12, 13, 14, 15, 16, 17, 18, 19, 20, 21, 22, 23, 24, 25, 26, 27, 28, 29, 30, 31, 32, 33, 34, 35, 36, 37, 38, 39]])) (rs := [some (.no), some (.no), some (.no), some (.no), some (.no), some (.no), some (.no), some (.cond true), some (.no), some (.no), some (.no), some (.eqv (.no) ⟨[(54, .int .i64 (v1.fType.length : Int))], [], []⟩), some (.no), some (.cond true), some (.no), some (.no), some (.no), some (.eqv (.no) ⟨[(60, .int .i64 (v1.fKids.length : Int))], [], []⟩), some (.no), some (.cond true), some (.no), none, none, none, none, none, none, none, none, some (.cond false), some (.no), none, none, none, none, none, none, none, none, some (.cond false), some (.no)]) (kt := [4]) (ko := []) (T' := [(4, .bool false)]) (O' := []) (by kernel_rfl) (And.intro hb_7_0 (And.intro hb_7_0 (And.intro hb_7_0 (And.intro hb_7_0 (And.intro hb_7_1 (And.intro hb_7_1 (And.intro hb_7_1 (And.intro (lenT (d := 54) I v1.fType) (And.intro hb_7_1 (And.intro hb_7_1 (And.intro hb_7_2 (And.intro hb_7_2 (And.intro hb_7_2 (And.intro (lenT (d := 60) GTerm_S v1.fKids) (And.intro hb_7_2 (And.intro hb_7_2 (And.intro (neT hb_7_3 : ((v1.fKids.length : Int) == 2) ≠ true) (And.intro (neT hb_7_3 : ((v1.fKids.length : Int) == 2) ≠ true) (And.intro (neT hb_7_3 : ((v1.fKids.length : Int) == 2) ≠ true) (And.intro (neT hb_7_3 : ((v1.fKids.length : Int) == 2) ≠ true) (And.intro (neT hb_7_3 : ((v1.fKids.length : Int) == 2) ≠ true) (And.intro (neT hb_7_3 : ((v1.fKids.length : Int) == 2) ≠ true) (And.intro (neT hb_7_3 : ((v1.fKids.length : Int) == 2) ≠ true) (And.intro (neT hb_7_3 : ((v1.fKids.length : Int) == 2) ≠ true) (And.intro hb_7_3 (And.intro (neT (rfl : false = false) : false ≠ true) (And.intro (neT (rfl : false = false) : false ≠ true) (And.intro (neT (rfl : false = false) : false ≠ true) (And.intro (neT (rfl : false = false) : false ≠ true) (And.intro (neT (rfl : false = false) : false ≠ true) (And.intro (neT (rfl : false = false) : false ≠ true) (And.intro (neT (rfl : false = false) : false ≠ true) (And.intro (neT (rfl : false = false) : false ≠ true) (And.intro (rfl : false = false) trivial)))))))))))))))))))))))))))))))))) (by kernel_rfl) (by kernel_rfl) ?_
                obtain rfl := Option.some.inj h
                exact Into.mk
            · refine Wp.reg tiok mix hc (by kernel_rfl) (ah := (some [[], [0], [0, 1], [0, 1, 2], [0, 1, 2, 3], [0, 1, 2, 3, 4], [0, 1, 2, 3, 4, 5], [0, 1, 2, 3, 4, 5, 6], [0, 1, 2, 3, 4, 5, 6, 7], [0, 1, 2, 3, 4, 5, 6, 7, 8], [0, 1, 2, 3, 4, 5, 6, 7, 8, 9], [0, 1, 2, 3, 4, 5, 6, 7, 8, 9, 10], [0, 1, 2, 3, 4, 5, 6, 7, 8, 9, 10, 11], [0, 1, 2, 3, 4, 5, 6, 7, 8, 9, 10, 11, 12], [0, 1, 2, 3, 4, 5, 6, 7, 8, 9, 10, 11, 12, 13], [0, 1, 2, 3, 4, 5, 6, 7, 8, 9, 10, 11, 12, 13, 14], [0, 1, 2, 3, 4, 5, 6, 7, 8, 9, 10, 11, 12, 13, 14, 15], [0, 1, 2, 3, 4, 5, 6, 7, 8, 9, 10, 11, 12, 13, 14, 15, 16], [0, 1, 2, 3, 4, 5, 6, 7, 8, 9, 10, 11, 12, 13, 14, 15, 16, 17], [0, 1, 2, 3, 4, 5, 6, 7, 8, 9, 10, 11, 12, 13, 14, 15, 16, 17, 18], [0, 1, 2, 3, 4, 5, 6, 7, 8, 9, 10, 11, 12, 13, 14, 15, 16, 17, 18, 19], [0, 1, 2, 3, 4, 5, 6, 7, 8, 9, 10, 11, 12, 13, 14, 15, 16, 17, 18, 19, 20], [0, 1, 2, 3, 4, 5, 6, 7, 8, 9, 10, 11, 12, 13, 14, 15, 16, 17, 18, 19, 20, 21], [0, 1, 2, 3, 4, 5, 6, 7, 8, 9, 10, 11, 12, 13, 14, 15, 16, 17, 18, 19, 20, 21, 22], [0, 1, 2, 3, 4, 5, 6, 7, 8, 9, 10, 11, 12, 13, 14, 15, 16, 17, 18, 19, 20], [0, 1, 2, 3, 4, 5, 6, 7, 8, 9, 10, 11, 12, 13, 14, 15, 16, 17, 18, 19, 20, 24], [0, 1, 2, 3, 4, 5, 6, 7, 8, 9, 10, 11, 12, 13, 14, 15, 16, 17, 18, 19, 20, 24, 25], [0, 1, 2, 3, 4, 5, 6, 7, 8, 9, 10, 11, 12, 13, 14, 15, 16, 17, 18, 19, 20, 24, 25, 26], [0, 1, 2, 3, 4, 5, 6, 7, 8, 9, 10, 11, 12, 13, 14, 15, 16, 17, 18, 19, 20, 21, 22, 23, 24, 25, 26, 27], [0, 1, 2, 3, 4, 5, 6, 7, 8, 9, 10, 11, 12, 13, 14, 15, 16, 17, 18, 19, 20, 21, 22, 23, 24, 25, 26, 27, 28], [0, 1, 2, 3, 4, 5, 6, 7, 8, 9, 10, 11, 12, 13, 14, 15, 16, 17, 18, 19, 20, 21, 22, 23, 24, 25, 26, 27, 28, 29], [0, 1, 2, 3, 4, 5, 6, 7, 8, 9, 10, 11, 12, 13, 14, 15, 16, 17, 18, 19, 20, 21, 22, 23, 24, 25, 26, 27, 28, 29, 30], [0, 1, 2, 3, 4, 5, 6, 7, 8, 9, 10, 11, 12, 13, 14, 15, 16, 17, 18, 19, 20, 21, 22, 23, 24, 25, 26, 27, 28, 29, 30, 31], [0, 1, 2, 3, 4, 5, 6, 7, 8, 9, 10, 11, 12, 13, 14, 15, 16, 17, 18, 19, 20, 21, 22, 23, 24, 25, 26, 27, 28, 29, 30, 31, 32], [0, 1, 2, 3, 4, 5, 6, 7, 8, 9, 10, 11, 12, 13, 14, 15, 16, 17, 18, 19, 20, 21, 22, 23, 24, 25, 26, 27, 28, 29, 30], [0, 1, 2, 3, 4, 5, 6, 7, 8, 9, 10, 11, 12, 13, 14, 15, 16, 17, 18, 19, 20, 21, 22, 23, 24, 25, 26, 27, 28, 29, 30, 34], [0, 1, 2, 3, 4, 5, 6, 7, 8, 9, 10, 11, 12, 13, 14, 15, 16, 17, 18, 19, 20, 21, 22, 23, 24, 25, 26, 27, 28, 29, 30, 34, 35], [0, 1, 2, 3, 4, 5, 6, 7, 8, 9, 10, 11, 12, 13, 14, 15, 16, 17, 18, 19, 20, 21, 22, 23, 24, 25, 26, 27, 28, 29, 30, 34, 35, 36], [0, 1, 2, 3, 4, 5, 6, 7, 8, 9, 10, 11, 12, 13, 14, 15, 16, 17, 18, 19, 20, 21, 22, 23, 24, 25, 26, 27, 28, 29, 30, 31, 32, 33, 34, 35, 36, 37], [0, 1, 2, 3, 4, 5, 6, 7, 8, 9, 10, 11, 12, 13, 14, 15, 16, 17, 18, 19, 20, 21, 22, 23, 24, 25, 26, 27, 28, 29, 30, 31, 32, 33, 34, 35, 36, 37, 38], [0, 1, 2, 3, 4, 5, 6, 7, 8, 9, 10, 11, 12, 13, 14, 15, 16, 17, 18, 19, 20, 21, 22, 23, 24, 25, 26, 27, 28, 29, 30, 31, 32, 33, 34, 35, 36, 37, 38, 39]])) (rs := [some (.no), some (.no), some (.no), some (.no), some (.no), some (.no), some (.no), some (.cond true), some (.no), some (.no), some (.no), some (.eqv (.no) ⟨[(54, .int .i64 (v1.fType.length : Int))], [], []⟩), some (.no), some (.cond true), some (.no), none, none, none, none, some (.cond false), some (.no), none, none, none, none, none, none, none, none, some (.cond false), some (.no), none, none, none, none, none, none, none, none, some (.cond false), some (.no)]) (kt := [4]) (ko := []) (T' := [(4, .bool false)]) (O' := []) (by kernel_rfl) (And.intro hb_7_0 (And.intro hb_7_0 (And.intro hb_7_0 (And.intro hb_7_0 (And.intro hb_7_1 (And.intro hb_7_1 (And.intro hb_7_1 (And.intro (lenT (d := 54) I v1.fType) (And.intro hb_7_1 (And.intro hb_7_1 (And.intro (neT hb_7_2 : ((v1.fType.length : Int) == 0) ≠ true) (And.intro (neT hb_7_2 : ((v1.fType.length : Int) == 0) ≠ true) (And.intro (neT hb_7_2 : ((v1.fType.length : Int) == 0) ≠ true) (And.intro (neT hb_7_2 : ((v1.fType.length : Int) == 0) ≠ true) (And.intro hb_7_2 (And.intro (neT (rfl : false = false) : false ≠ true) (And.intro (neT (rfl : false = false) : false ≠ true) (And.intro (neT (rfl : false = false) : false ≠ true) (And.intro (neT (rfl : false = false) : false ≠ true) (And.intro (neT (rfl : false = false) : false ≠ true) (And.intro (neT (rfl : false = false) : false ≠ true) (And.intro (neT (rfl : false = false) : false ≠ true) (And.intro (neT (rfl : false = false) : false ≠ true) (And.intro (rfl : false = false) (And.intro (neT (rfl : false = false) : false ≠ true) (And.intro (neT (rfl : false = false) : false ≠ true) (And.intro (neT (rfl : false = false) : false ≠ true) (And.intro (neT (rfl : false = false) : false ≠ true) (And.intro (neT (rfl : false = false) : false ≠ true) (And.intro (neT (rfl : false = false) : false ≠ true) (And.intro (neT (rfl : false = false) : false ≠ true) (And.intro (neT (rfl : false = false) : false ≠ true) (And.intro (rfl : false = false) trivial))))))))))))))))))))))))))))))))) (by kernel_rfl) (by kernel_rfl) ?_
              obtain rfl := Option.some.inj h
              exact Into.mk
          · refine Wp.reg tiok mix hc (by kernel_rfl) (ah := (some [[], [0], [0, 1], [0, 1, 2], [0, 1, 2, 3], [0, 1, 2, 3, 4], [0, 1, 2, 3, 4, 5], [0, 1, 2, 3, 4, 5, 6], [0, 1, 2, 3, 4, 5, 6, 7], [0, 1, 2, 3, 4, 5, 6, 7, 8], [0, 1, 2, 3, 4, 5, 6, 7, 8, 9], [0, 1, 2, 3, 4, 5, 6, 7, 8, 9, 10], [0, 1, 2, 3, 4, 5, 6, 7, 8, 9, 10, 11], [0, 1, 2, 3, 4, 5, 6, 7, 8, 9, 10, 11, 12], [0, 1, 2, 3, 4, 5, 6, 7, 8, 9, 10, 11, 12, 13], [0, 1, 2, 3, 4, 5, 6, 7, 8, 9, 10, 11, 12, 13, 14], [0, 1, 2, 3, 4, 5, 6, 7, 8, 9, 10, 11, 12, 13, 14, 15], [0, 1, 2, 3, 4, 5, 6, 7, 8, 9, 10, 11, 12, 13, 14, 15, 16], [0, 1, 2, 3, 4, 5, 6, 7, 8, 9, 10, 11, 12, 13, 14, 15, 16, 17], [0, 1, 2, 3, 4, 5, 6, 7, 8, 9, 10, 11, 12, 13, 14, 15, 16, 17, 18], [0, 1, 2, 3, 4, 5, 6, 7, 8, 9, 10, 11, 12, 13, 14, 15, 16, 17, 18, 19], [0, 1, 2, 3, 4, 5, 6, 7, 8, 9, 10, 11, 12, 13, 14, 15, 16, 17, 18, 19, 20], [0, 1, 2, 3, 4, 5, 6, 7, 8, 9, 10, 11, 12, 13, 14, 15, 16, 17, 18, 19, 20, 21], [0, 1, 2, 3, 4, 5, 6, 7, 8, 9, 10, 11, 12, 13, 14, 15, 16, 17, 18, 19, 20, 21, 22], [0, 1, 2, 3, 4, 5, 6, 7, 8, 9, 10, 11, 12, 13, 14, 15, 16, 17, 18, 19, 20], [0, 1, 2, 3, 4, 5, 6, 7, 8, 9, 10, 11, 12, 13, 14, 15, 16, 17, 18, 19, 20, 24], [0, 1, 2, 3, 4, 5, 6, 7, 8, 9, 10, 11, 12, 13, 14, 15, 16, 17, 18, 19, 20, 24, 25], [0, 1, 2, 3, 4, 5, 6, 7, 8, 9, 10, 11, 12, 13, 14, 15, 16, 17, 18, 19, 20, 24, 25, 26], [0, 1, 2, 3, 4, 5, 6, 7, 8, 9, 10, 11, 12, 13, 14, 15, 16, 17, 18, 19, 20, 21, 22, 23, 24, 25, 26, 27], [0, 1, 2, 3, 4, 5, 6, 7, 8, 9, 10, 11, 12, 13, 14, 15, 16, 17, 18, 19, 20, 21, 22, 23, 24, 25, 26, 27, 28], [0, 1, 2, 3, 4, 5, 6, 7, 8, 9, 10, 11, 12, 13, 14, 15, 16, 17, 18, 19, 20, 21, 22, 23, 24, 25, 26, 27, 28, 29], [0, 1, 2, 3, 4, 5, 6, 7, 8, 9, 10, 11, 12, 13, 14, 15, 16, 17, 18, 19, 20, 21, 22, 23, 24, 25, 26, 27, 28, 29, 30], [0, 1, 2, 3, 4, 5, 6, 7, 8, 9, 10, 11, 12, 13, 14, 15, 16, 17, 18, 19, 20, 21, 22, 23, 24, 25, 26, 27, 28, 29, 30, 31], [0, 1, 2, 3, 4, 5, 6, 7, 8, 9, 10, 11, 12, 13, 14, 15, 16, 17, 18, 19, 20, 21, 22, 23, 24, 25, 26, 27, 28, 29, 30, 31, 32], [0, 1, 2, 3, 4, 5, 6, 7, 8, 9, 10, 11, 12, 13, 14, 15, 16, 17, 18, 19, 20, 21, 22, 23, 24, 25, 26, 27, 28, 29, 30], [0, 1, 2, 3, 4, 5, 6, 7, 8, 9, 10, 11, 12, 13, 14, 15, 16, 17, 18, 19, 20, 21, 22, 23, 24, 25, 26, 27, 28, 29, 30, 34], [0, 1, 2, 3, 4, 5, 6, 7, 8, 9, 10, 11, 12, 13, 14, 15, 16, 17, 18, 19, 20, 21, 22, 23, 24, 25, 26, 27, 28, 29, 30, 34, 35], [0, 1, 2, 3, 4, 5, 6, 7, 8, 9, 10, 11, 12, 13, 14, 15, 16, 17, 18, 19, 20, 21, 22, 23, 24, 25, 26, 27, 28, 29, 30, 34, 35, 36], [0, 1, 2, 3, 4, 5, 6, 7, 8, 9, 10, 11, 12, 13, 14, 15, 16, 17, 18, 19, 20, 21, 22, 23, 24, 25, 26, 27, 28, 29, 30, 31, 32, 33, 34, 35, 36, 37], [0, 1, 2, 3, 4, 5, 6, 7, 8, 9, 10, 11, 12, 13, 14, 15, 16, 17, 18, 19, 20, 21, 22, 23, 24, 25, 26, 27, 28, 29, 30, 31, 32, 33, 34, 35, 36, 37, 38], [0, 1, 2, 3, 4, 5, 6, 7, 8, 9, 10, 11, 12, 13, 14, 15, 16, 17, 18, 19, 20, 21, 22, 23, 24, 25, 26, 27, 28, 29, 30, 31, 32, 33, 34, 35, 36, 37, 38, 39]])) (rs := [some (.no), some (.no), some (.no), some (.no), some (.no), some (.no), some (.no), some (.cond true), some (.no), none, none, none, none, some (.cond false), some (.no), none, none, none, none, some (.cond false), some (.no), none, none, none, none, none, none, none, none, some (.cond false), some (.no), none, none, none, none, none, none, none, none, some (.cond false), some (.no)]) (kt := [4]) (ko := []) (T' := [(4, .bool false)]) (O' := []) (by kernel_rfl) (And.intro hb_7_0 (And.intro hb_7_0 (And.intro hb_7_0 (And.intro hb_7_0 (And.intro (neT hb_7_1 : (v1.fN == 0) ≠ true) (And.intro (neT hb_7_1 : (v1.fN == 0) ≠ true) (And.intro (neT hb_7_1 : (v1.fN == 0) ≠ true) (And.intro (neT hb_7_1 : (v1.fN == 0) ≠ true) (And.intro hb_7_1 (And.intro (neT (rfl : false = false) : false ≠ true) (And.intro (neT (rfl : false = false) : false ≠ true) (And.intro (neT (rfl : false = false) : false ≠ true) (And.intro (neT (rfl : false = false) : false ≠ true) (And.intro (rfl : false = false) (And.intro (neT (rfl : false = false) : false ≠ true) (And.intro (neT (rfl : false = false) : false ≠ true) (And.intro (neT (rfl : false = false) : false ≠ true) (And.intro (neT (rfl : false = false) : false ≠ true) (And.intro (neT (rfl : false = false) : false ≠ true) (And.intro (neT (rfl : false = false) : false ≠ true) (And.intro (neT (rfl : false = false) : false ≠ true) (And.intro (neT (rfl : false = false) : false ≠ true) (And.intro (rfl : false = false) (And.intro (neT (rfl : false = false) : false ≠ true) (And.intro (neT (rfl : false = false) : false ≠ true) (And.intro (neT (rfl : false = false) : false ≠ true) (And.intro (neT (rfl : false = false) : false ≠ true) (And.intro (neT (rfl : false = false) : false ≠ true) (And.intro (neT (rfl : false = false) : false ≠ true) (And.intro (neT (rfl : false = false) : false ≠ true) (And.intro (neT (rfl : false = false) : false ≠ true) (And.intro (rfl : false = false) trivial)))))))))))))))))))))))))))))))) (by kernel_rfl) (by kernel_rfl) ?_
            obtain rfl := Option.some.inj h
            exact Into.mk
        · refine Wp.reg tiok mix hc (by kernel_rfl) (ah := (some [[], [0], [0, 1], [0, 1, 2], [0, 1, 2, 3], [0, 1, 2, 3, 4], [0, 1, 2, 3, 4, 5], [0, 1, 2, 3, 4, 5, 6], [0, 1, 2, 3, 4, 5, 6, 7], [0, 1, 2, 3, 4, 5, 6, 7, 8], [0, 1, 2, 3, 4, 5, 6, 7, 8, 9], [0, 1, 2, 3, 4, 5, 6, 7, 8, 9, 10], [0, 1, 2, 3, 4, 5, 6, 7, 8, 9, 10, 11], [0, 1, 2, 3, 4, 5, 6, 7, 8, 9, 10, 11, 12], [0, 1, 2, 3, 4, 5, 6, 7, 8, 9, 10, 11, 12, 13], [0, 1, 2, 3, 4, 5, 6, 7, 8, 9, 10, 11, 12, 13, 14], [0, 1, 2, 3, 4, 5, 6, 7, 8, 9, 10, 11, 12, 13, 14, 15], [0, 1, 2, 3, 4, 5, 6, 7, 8, 9, 10, 11, 12, 13, 14, 15, 16], [0, 1, 2, 3, 4, 5, 6, 7, 8, 9, 10, 11, 12, 13, 14, 15, 16, 17], [0, 1, 2, 3, 4, 5, 6, 7, 8, 9, 10, 11, 12, 13, 14, 15, 16, 17, 18], [0, 1, 2, 3, 4, 5, 6, 7, 8, 9, 10, 11, 12, 13, 14, 15, 16, 17, 18, 19], [0, 1, 2, 3, 4, 5, 6, 7, 8, 9, 10, 11, 12, 13, 14, 15, 16, 17, 18, 19, 20], [0, 1, 2, 3, 4, 5, 6, 7, 8, 9, 10, 11, 12, 13, 14, 15, 16, 17, 18, 19, 20, 21], [0, 1, 2, 3, 4, 5, 6, 7, 8, 9, 10, 11, 12, 13, 14, 15, 16, 17, 18, 19, 20, 21, 22], [0, 1, 2, 3, 4, 5, 6, 7, 8, 9, 10, 11, 12, 13, 14, 15, 16, 17, 18, 19, 20], [0, 1, 2, 3, 4, 5, 6, 7, 8, 9, 10, 11, 12, 13, 14, 15, 16, 17, 18, 19, 20, 24], [0, 1, 2, 3, 4, 5, 6, 7, 8, 9, 10, 11, 12, 13, 14, 15, 16, 17, 18, 19, 20, 24, 25], [0, 1, 2, 3, 4, 5, 6, 7, 8, 9, 10, 11, 12, 13, 14, 15, 16, 17, 18, 19, 20, 24, 25, 26], [0, 1, 2, 3, 4, 5, 6, 7, 8, 9, 10, 11, 12, 13, 14, 15, 16, 17, 18, 19, 20, 21, 22, 23, 24, 25, 26, 27], [0, 1, 2, 3, 4, 5, 6, 7, 8, 9, 10, 11, 12, 13, 14, 15, 16, 17, 18, 19, 20, 21, 22, 23, 24, 25, 26, 27, 28], [0, 1, 2, 3, 4, 5, 6, 7, 8, 9, 10, 11, 12, 13, 14, 15, 16, 17, 18, 19, 20, 21, 22, 23, 24, 25, 26, 27, 28, 29], [0, 1, 2, 3, 4, 5, 6, 7, 8, 9, 10, 11, 12, 13, 14, 15, 16, 17, 18, 19, 20, 21, 22, 23, 24, 25, 26, 27, 28, 29, 30], [0, 1, 2, 3, 4, 5, 6, 7, 8, 9, 10, 11, 12, 13, 14, 15, 16, 17, 18, 19, 20, 21, 22, 23, 24, 25, 26, 27, 28, 29, 30, 31], [0, 1, 2, 3, 4, 5, 6, 7, 8, 9, 10, 11, 12, 13, 14, 15, 16, 17, 18, 19, 20, 21, 22, 23, 24, 25, 26, 27, 28, 29, 30, 31, 32], [0, 1, 2, 3, 4, 5, 6, 7, 8, 9, 10, 11, 12, 13, 14, 15, 16, 17, 18, 19, 20, 21, 22, 23, 24, 25, 26, 27, 28, 29, 30], [0, 1, 2, 3, 4, 5, 6, 7, 8, 9, 10, 11, 12, 13, 14, 15, 16, 17, 18, 19, 20, 21, 22, 23, 24, 25, 26, 27, 28, 29, 30, 34], [0, 1, 2, 3, 4, 5, 6, 7, 8, 9, 10, 11, 12, 13, 14, 15, 16, 17, 18, 19, 20, 21, 22, 23, 24, 25, 26, 27, 28, 29, 30, 34, 35], [0, 1, 2, 3, 4, 5, 6, 7, 8, 9, 10, 11, 12, 13, 14, 15, 16, 17, 18, 19, 20, 21, 22, 23, 24, 25, 26, 27, 28, 29, 30, 34, 35, 36], [0, 1, 2, 3, 4, 5, 6, 7, 8, 9, 10, 11, 12, 13, 14, 15, 16, 17, 18, 19, 20, 21, 22, 23, 24, 25, 26, 27, 28, 29, 30, 31, 32, 33, 34, 35, 36, 37], [0, 1, 2, 3, 4, 5, 6, 7, 8, 9, 10, 11, 12, 13, 14, 15, 16, 17, 18, 19, 20, 21, 22, 23, 24, 25, 26, 27, 28, 29, 30, 31, 32, 33, 34, 35, 36, 37, 38], [0, 1, 2, 3, 4, 5, 6, 7, 8, 9, 10, 11, 12, 13, 14, 15, 16, 17, 18, 19, 20, 21, 22, 23, 24, 25, 26, 27, 28, 29, 30, 31, 32, 33, 34, 35, 36, 37, 38, 39]])) (rs := [some (.no), some (.no), some (.no), some (.no), none, none, none, some (.cond false), some (.no), none, none, none, none, some (.cond false), some (.no), none, none, none, none, some (.cond false), some (.no), none, none, none, none, none, none, none, none, some (.cond false), some (.no), none, none, none, none, none, none, none, none, some (.cond false), some (.no)]) (kt := [4]) (ko := []) (T' := [(4, .bool false)]) (O' := []) (by kernel_rfl) (And.intro (neT hb_7_0 : (v1.fOp == 4) ≠ true) (And.intro (neT hb_7_0 : (v1.fOp == 4) ≠ true) (And.intro (neT hb_7_0 : (v1.fOp == 4) ≠ true) (And.intro hb_7_0 (And.intro (neT (rfl : false = false) : false ≠ true) (And.intro (neT (rfl : false = false) : false ≠ true) (And.intro (neT (rfl : false = false) : false ≠ true) (And.intro (neT (rfl : false = false) : false ≠ true) (And.intro (rfl : false = false) (And.intro (neT (rfl : false = false) : false ≠ true) (And.intro (neT (rfl : false = false) : false ≠ true) (And.intro (neT (rfl : false = false) : false ≠ true) (And.intro (neT (rfl : false = false) : false ≠ true) (And.intro (rfl : false = false) (And.intro (neT (rfl : false = false) : false ≠ true) (And.intro (neT (rfl : false = false) : false ≠ true) (And.intro (neT (rfl : false = false) : false ≠ true) (And.intro (neT (rfl : false = false) : false ≠ true) (And.intro (neT (rfl : false = false) : false ≠ true) (And.intro (neT (rfl : false = false) : false ≠ true) (And.intro (neT (rfl : false = false) : false ≠ true) (And.intro (neT (rfl : false = false) : false ≠ true) (And.intro (rfl : false = false) (And.intro (neT (rfl : false = false) : false ≠ true) (And.intro (neT (rfl : false = false) : false ≠ true) (And.intro (neT (rfl : false = false) : false ≠ true) (And.intro (neT (rfl : false = false) : false ≠ true) (And.intro (neT (rfl : false = false) : false ≠ true) (And.intro (neT (rfl : false = false) : false ≠ true) (And.intro (neT (rfl : false = false) : false ≠ true) (And.intro (neT (rfl : false = false) : false ≠ true) (And.intro (rfl : false = false) trivial)))))))))))))))))))))))))))))))) (by kernel_rfl) (by kernel_rfl) ?_
          obtain rfl := Option.some.inj h
          exact Into.mk
      · clear hj_6
        refine seqQ_norm ?_
        refine Wp.retN (by kernel_rfl) ?_
        refine blockQ_ret ?_
        refine seqQ_ret ?_
        obtain rfl := Option.some.inj h
        exact RetQ.ret (fl := [true]) (by kernel_rfl)
    · refine Wp.condF (b := (r_1_3_0 == 1)) (by kernel_rfl) (by kernel_rfl) hb_4 ?_
      refine Wp.seqN (by kernel_rfl) ?_
      refine Wp.reg tiok mix hc (by kernel_rfl) (ah := none) (rs := [some (.no), some (.no)]) (kt := [3, 6, 7, 83]) (ko := [1, 2]) (T' := [(3, .ra 1 0), (6, .int .i64 r_1_3_1), (7, .rs 2), (83, .bool (r_1_3_0 == 2))]) (O' := [(1, .box [.int .i64 v1.fOp, .int .i64 v1.fN, .sl (List.map I v1.fType), .sl (List.map GTerm_S v1.fKids)]), (2, .arr (List.map LI_s r_2_1))]) (by kernel_rfl) trivial (by kernel_rfl) (by kernel_rfl) ?_
      refine seqQ_norm ?_
      rcases itesome h with ⟨hb_7, h⟩ | ⟨hb_7, h⟩
      · refine Wp.condT (b := (r_1_3_0 == 2)) (by kernel_rfl) (by kernel_rfl) hb_7 ?_
        refine Wp.seqN (by kernel_rfl) ?_
        refine Wp.seqN (by kernel_rfl) ?_
        obtain ⟨v_8, hj_9, h⟩ := bsome h
        refine Wp.into (x := .normal) (mkS [(3, .ra 1 0), (7, .rs 2), (103, .bool v_8)] [(1, .box [.int .i64 v1.fOp, .int .i64 v1.fN, .sl (List.map I v1.fType), .sl (List.map GTerm_S v1.fKids)]), (2, .arr (List.map LI_s r_2_1))]) ?_ ?_
        · replace h := hj_9
          rcases itesome h with ⟨hb_9_0, h⟩ | ⟨hb_9_0, h⟩
          · refine Wp.reg tiok mix hc (by kernel_rfl) (ah := none) (rs := [some (.no), some (.no), some (.no), some (.no), none, none, none, none, some (.cond true), some (.no), none, none, none, none, none, none, none, none, some (.cond true)]) (kt := [3, 7, 103]) (ko := [1, 2]) (T' := [(3, .ra 1 0), (7, .rs 2), (103, .bool true)]) (O' := [(1, .box [.int .i64 v1.fOp, .int .i64 v1.fN, .sl (List.map I v1.fType), .sl (List.map GTerm_S v1.fKids)]), (2, .arr (List.map LI_s r_2_1))]) (by kernel_rfl) (And.intro (neF hb_9_0 : (v1.fN != 0) ≠ false) (And.intro (neF hb_9_0 : (v1.fN != 0) ≠ false) (And.intro (neF hb_9_0 : (v1.fN != 0) ≠ false) (And.intro (neF hb_9_0 : (v1.fN != 0) ≠ false) (And.intro hb_9_0 (And.intro (neF (rfl : true = true) : true ≠ false) (And.intro (neF (rfl : true = true) : true ≠ false) (And.intro (neF (rfl : true = true) : true ≠ false) (And.intro (neF (rfl : true = true) : true ≠ false) (And.intro (neF (rfl : true = true) : true ≠ false) (And.intro (rfl : true = true) trivial))))))))))) (by kernel_rfl) (by kernel_rfl) ?_
            obtain rfl := Option.some.inj h
            exact Into.mk
          · rcases itesome h with ⟨hb_9_1, h⟩ | ⟨hb_9_1, h⟩
            · refine Wp.reg tiok mix hc (by kernel_rfl) (ah := none) (rs := [some (.no), some (.no), some (.no), some (.no), some (.no), some (.no), some (.eqv (.no) ⟨[(91, .int .i64 (v1.fKids.length : Int))], [], []⟩), some (.no), some (.cond false), some (.no), none, none, none, none, none, none, none, none, some (.cond true)]) (kt := [3, 7, 103]) (ko := [1, 2]) (T' := [(3, .ra 1 0), (7, .rs 2), (103, .bool true)]) (O' := [(1, .box [.int .i64 v1.fOp, .int .i64 v1.fN, .sl (List.map I v1.fType), .sl (List.map GTerm_S v1.fKids)]), (2, .arr (List.map LI_s r_2_1))]) (by kernel_rfl) (And.intro hb_9_0 (And.intro hb_9_0 (And.intro hb_9_0 (And.intro (lenT (d := 91) GTerm_S v1.fKids) (And.intro hb_9_0 (And.intro hb_9_0 (And.intro (neF hb_9_1 : ((v1.fKids.length : Int) != 1) ≠ false) (And.intro (neF hb_9_1 : ((v1.fKids.length : Int) != 1) ≠ false) (And.intro (neF hb_9_1 : ((v1.fKids.length : Int) != 1) ≠ false) (And.intro (neF hb_9_1 : ((v1.fKids.length : Int) != 1) ≠ false) (And.intro (neF hb_9_1 : ((v1.fKids.length : Int) != 1) ≠ false) (And.intro hb_9_1 trivial)))))))))))) (by kernel_rfl) (by kernel_rfl) ?_
              obtain rfl := Option.some.inj h
              exact Into.mk
            · rcases itesome h with ⟨hb_9_2, h⟩ | ⟨hb_9_2, h⟩
              · refine Wp.reg tiok mix hc (by kernel_rfl) (ah := none) (rs := [some (.no), some (.no), some (.no), some (.no), some (.no), some (.no), some (.eqv (.no) ⟨[(91, .int .i64 (v1.fKids.length : Int))], [], []⟩), some (.no), some (.cond false), some (.no), some (.no), some (.no), some (.no), some (.no), some (.no), some (.no), some (.no), some (.cond true), some (.cond false)]) (kt := [3, 7, 103]) (ko := [1, 2]) (T' := [(3, .ra 1 0), (7, .rs 2), (103, .bool (v1.fOp != 7))]) (O' := [(1, .box [.int .i64 v1.fOp, .int .i64 v1.fN, .sl (List.map I v1.fType), .sl (List.map GTerm_S v1.fKids)]), (2, .arr (List.map LI_s r_2_1))]) (by kernel_rfl) (And.intro hb_9_0 (And.intro hb_9_0 (And.intro hb_9_0 (And.intro (lenT (d := 91) GTerm_S v1.fKids) (And.intro hb_9_0 (And.intro hb_9_0 (And.intro hb_9_1 (And.intro hb_9_1 (And.intro hb_9_1 (And.intro hb_9_1 (And.intro hb_9_2 (And.intro hb_9_2 (And.intro hb_9_2 (And.intro hb_9_1 (And.intro hb_9_2 (And.intro hb_9_1 trivial)))))))))))))))) (by kernel_rfl) (by kernel_rfl) ?_
                obtain rfl := Option.some.inj h
                exact Into.mk
              · refine Wp.reg tiok mix hc (by kernel_rfl) (ah := none) (rs := [some (.no), some (.no), some (.no), some (.no), some (.no), some (.no), some (.eqv (.no) ⟨[(91, .int .i64 (v1.fKids.length : Int))], [], []⟩), some (.no), some (.cond false), some (.no), some (.no), some (.no), some (.no), some (.no), none, none, none, some (.cond false), some (.cond false)]) (kt := [3, 7, 103]) (ko := [1, 2]) (T' := [(3, .ra 1 0), (7, .rs 2), (103, .bool false)]) (O' := [(1, .box [.int .i64 v1.fOp, .int .i64 v1.fN, .sl (List.map I v1.fType), .sl (List.map GTerm_S v1.fKids)]), (2, .arr (List.map LI_s r_2_1))]) (by kernel_rfl) (And.intro hb_9_0 (And.intro hb_9_0 (And.intro hb_9_0 (And.intro (lenT (d := 91) GTerm_S v1.fKids) (And.intro hb_9_0 (And.intro hb_9_0 (And.intro hb_9_1 (And.intro hb_9_1 (And.intro hb_9_1 (And.intro hb_9_1 (And.intro (neT hb_9_2 : (v1.fOp != 6) ≠ true) (And.intro (neT hb_9_2 : (v1.fOp != 6) ≠ true) (And.intro (neT hb_9_2 : (v1.fOp != 6) ≠ true) (And.intro hb_9_1 (And.intro hb_9_2 (And.intro hb_9_1 trivial)))))))))))))))) (by kernel_rfl) (by kernel_rfl) ?_
                obtain rfl := Option.some.inj h
                exact Into.mk
        · clear hj_9
          refine seqQ_norm ?_
          rcases itesome h with ⟨hb_10, h⟩ | ⟨hb_10, h⟩
          · refine Wp.condT (b := v_8) (by kernel_rfl) (by kernel_rfl) hb_10 ?_
            refine Wp.seqN (by kernel_rfl) ?_
            refine Wp.reg tiok mix hc (by kernel_rfl) (ah := none) (rs := [some (.no)]) (kt := [4]) (ko := []) (T' := [(4, .bool false)]) (O' := []) (by kernel_rfl) trivial (by kernel_rfl) (by kernel_rfl) ?_
            refine seqQ_norm ?_
            refine Wp.retN (by kernel_rfl) ?_
            refine seqQ_ret ?_
            refine blockQ_ret ?_
            refine seqQ_ret ?_
            obtain rfl := Option.some.inj h
            exact RetQ.ret (fl := [true]) (by kernel_rfl)
          · refine Wp.condF (b := v_8) (by kernel_rfl) (by kernel_rfl) hb_10 ?_
            refine Wp.skipN (by kernel_rfl) ?_
            refine seqQ_norm ?_
            refine Wp.seqN (by kernel_rfl) ?_
            refine Wp.reg tiok mix hc (by kernel_rfl) (ah := none) (rs := [some (.no), some (.no), some (.no), some (.no)]) (kt := [3, 7, 8]) (ko := [1, 2]) (T' := [(3, .ra 1 0), (7, .rs 2), (8, .int .i64 (wr (v1.fOp - 6)))]) (O' := [(1, .box [.int .i64 v1.fOp, .int .i64 v1.fN, .sl (List.map I v1.fType), .sl (List.map GTerm_S v1.fKids)]), (2, .arr (List.map LI_s r_2_1))]) (by kernel_rfl) trivial (by kernel_rfl) (by kernel_rfl) ?_
            refine seqQ_norm ?_
            refine Wp.seqN (by kernel_rfl) ?_
            obtain ⟨v_11, hj_12, h⟩ := bsome h
            refine Wp.into (x := .normal) (mkS [(4, .bool v_11)] []) ?_ ?_
            · replace h := hj_12
              obtain ⟨e_12_5, hi_12_5, h⟩ := bsome h
              obtain ⟨r_12_7, hr_12_7, h⟩ := bsome h
              rcases itesome h with ⟨hb_12_0, h⟩ | ⟨hb_12_0, h⟩
              · obtain ⟨e_12_11, hi_12_11, h⟩ := bsome h
                obtain ⟨e_12_15, hi_12_15, h⟩ := bsome h
                obtain ⟨r_12_17, hr_12_17, h⟩ := bsome h
                refine Wp.reg tiok mix hc (by kernel_rfl) (ah := (some [[], [0], [], [], [3], [2, 3, 4], [2, 3, 4, 5], [0, 1, 2, 3, 4, 5, 6], [0, 1, 2, 3, 4, 5, 6, 7], [0, 1, 2, 3, 4, 5, 6, 7, 8], [0, 1, 2, 3, 4, 5, 6, 7, 8], [0, 1, 2, 3, 4, 5, 6, 7, 8, 9, 10], [0, 1, 2, 3, 4, 5, 6, 7, 8, 9, 10, 11], [0, 1, 2, 3, 4, 5, 6, 7, 8], [0, 1, 2, 3, 4, 5, 6, 7, 8, 13], [0, 1, 2, 3, 4, 5, 6, 7, 8, 13, 14], [0, 1, 2, 3, 4, 5, 6, 7, 8, 13, 14, 15], [0, 1, 2, 3, 4, 5, 6, 7, 8, 9, 10, 11, 12, 13, 14, 15, 16], [0, 1, 2, 3, 4, 5, 6, 7, 8, 9, 10, 11, 12, 13, 14, 15, 16, 17], [0, 1, 2, 3, 4, 5, 6, 7, 8, 9, 10, 11, 12, 13, 14, 15, 16, 17, 18]])) (rs := [some (.no), some (.no), some (.no), some (.no), some (.no), some (.no), some (.el (.sl (List.map I e_12_5))), some (.call (.bool r_12_7) [] 1), some (.no), some (.no), some (.no), some (.no), some (.el (.sl (List.map I e_12_11))), some (.no), some (.no), some (.el (.agg [.int .i64 e_12_15.fOp, .int .i64 e_12_15.fN, .sl (List.map I e_12_15.fType), .sl (List.map GTerm_S e_12_15.fKids)])), some (.no), some (.call (.bool r_12_17) [] 1), some (.cond true), some (.no)]) (kt := [4]) (ko := []) (T' := [(4, .bool r_12_17)]) (O' := []) (by kernel_rfl) (And.intro (idx_own (enc := LI_s) hi_12_5) (And.intro (idx_sl (enc := LI_s) (x := .sl (List.map I e_12_5)) hi_12_5 (eq_LI_s e_12_5)).2 (And.intro (slices_Equal_int_s _ _ hr_12_7) (And.intro bod_124 (And.intro (Or.inl rfl : ([] : List Nat) = [] ∨ noSh (.bool r_12_7) = true) (And.intro hb_12_0 (And.intro hb_12_0 (And.intro hb_12_0 (And.intro (idx_own (enc := LI_s) hi_12_11) (And.intro hb_12_0 (And.intro (idx_sl (enc := LI_s) (x := .sl (List.map I e_12_11)) hi_12_11 (eq_LI_s e_12_11)).2 (And.intro hb_12_0 (And.intro hb_12_0 (And.intro hb_12_0 (And.intro (idx_sl (enc := GTerm_S) (x := .agg [.int .i64 e_12_15.fOp, .int .i64 e_12_15.fN, .sl (List.map I e_12_15.fType), .sl (List.map GTerm_S e_12_15.fKids)]) hi_12_15 (eq_GTerm_S e_12_15)) (And.intro hb_12_0 (And.intro hb_12_0 (And.intro (impl_isValue_ih _ _ hr_12_17) (And.intro bod_76 (And.intro (Or.inl rfl : ([] : List Nat) = [] ∨ noSh (.bool r_12_17) = true) (And.intro hb_12_0 trivial))))))))))))))))))))) (by kernel_rfl) (by kernel_rfl) ?_
                obtain rfl := Option.some.inj h
                exact Into.mk
              · refine Wp.reg tiok mix hc (by kernel_rfl) (ah := (some [[], [0], [], [], [3], [2, 3, 4], [2, 3, 4, 5], [0, 1, 2, 3, 4, 5, 6], [0, 1, 2, 3, 4, 5, 6, 7], [0, 1, 2, 3, 4, 5, 6, 7, 8], [0, 1, 2, 3, 4, 5, 6, 7, 8], [0, 1, 2, 3, 4, 5, 6, 7, 8, 9, 10], [0, 1, 2, 3, 4, 5, 6, 7, 8, 9, 10, 11], [0, 1, 2, 3, 4, 5, 6, 7, 8], [0, 1, 2, 3, 4, 5, 6, 7, 8, 13], [0, 1, 2, 3, 4, 5, 6, 7, 8, 13, 14], [0, 1, 2, 3, 4, 5, 6, 7, 8, 13, 14, 15], [0, 1, 2, 3, 4, 5, 6, 7, 8, 9, 10, 11, 12, 13, 14, 15, 16], [0, 1, 2, 3, 4, 5, 6, 7, 8, 9, 10, 11, 12, 13, 14, 15, 16, 17], [0, 1, 2, 3, 4, 5, 6, 7, 8, 9, 10, 11, 12, 13, 14, 15, 16, 17, 18]])) (rs := [some (.no), some (.no), some (.no), some (.no), some (.no), some (.no), some (.el (.sl (List.map I e_12_5))), some (.call (.bool r_12_7) [] 1), some (.no), none, none, none, none, none, none, none, none, none, some (.cond false), some (.no)]) (kt := [4]) (ko := []) (T' := [(4, .bool false)]) (O' := []) (by kernel_rfl) (And.intro (idx_own (enc := LI_s) hi_12_5) (And.intro (idx_sl (enc := LI_s) (x := .sl (List.map I e_12_5)) hi_12_5 (eq_LI_s e_12_5)).2 (And.intro (slices_Equal_int_s _ _ hr_12_7) (And.intro bod_124 (And.intro (Or.inl rfl : ([] : List Nat) = [] ∨ noSh (.bool r_12_7) = true) (And.intro (neT hb_12_0 : r_12_7 ≠ true) (And.intro (neT hb_12_0 : r_12_7 ≠ true) (And.intro (neT hb_12_0 : r_12_7 ≠ true) (And.intro (neT hb_12_0 : r_12_7 ≠ true) (And.intro (neT hb_12_0 : r_12_7 ≠ true) (And.intro (neT hb_12_0 : r_12_7 ≠ true) (And.intro (neT hb_12_0 : r_12_7 ≠ true) (And.intro (neT hb_12_0 : r_12_7 ≠ true) (And.intro (neT hb_12_0 : r_12_7 ≠ true) (And.intro hb_12_0 trivial))))))))))))))) (by kernel_rfl) (by kernel_rfl) ?_
                obtain rfl := Option.some.inj h
                exact Into.mk
            · clear hj_12
              refine seqQ_norm ?_
              refine Wp.retN (by kernel_rfl) ?_
              refine blockQ_ret ?_
              refine seqQ_ret ?_
              obtain rfl := Option.some.inj h
              exact RetQ.ret (fl := [true]) (by kernel_rfl)
      · refine Wp.condF (b := (r_1_3_0 == 2)) (by kernel_rfl) (by kernel_rfl) hb_7 ?_
        refine Wp.skipN (by kernel_rfl) ?_
        refine blockQ_norm ?_
        refine seqQ_norm ?_
        refine Wp.seqN (by kernel_rfl) ?_
        obtain ⟨v_13, hj_14, h⟩ := bsome h
        refine Wp.into (x := .normal) (mkS [(4, .bool v_13)] []) ?_ ?_
        · replace h := hj_14
          rcases itesome h with ⟨hb_13_0, h⟩ | ⟨hb_13_0, h⟩
          · rcases itesome h with ⟨hb_13_1, h⟩ | ⟨hb_13_1, h⟩
            · rcases itesome h with ⟨hb_13_2, h⟩ | ⟨hb_13_2, h⟩
              · rcases itesome h with ⟨hb_13_3, h⟩ | ⟨hb_13_3, h⟩
                · obtain ⟨e_13_23, hi_13_23, h⟩ := bsome h
                  obtain ⟨e_13_27, hi_13_27, h⟩ := bsome h
                  obtain ⟨r_13_29, hr_13_29, h⟩ := bsome h
                  refine Wp.reg tiok mix hc (by kernel_rfl) (ah := (some [[], [0], [0, 1], [0, 1, 2], [0, 1, 2, 3], [0, 1, 2, 3, 4], [0, 1, 2, 3], [0, 1, 2, 3, 4, 5, 6], [0, 1, 2, 3, 4, 5, 6, 7], [0, 1, 2, 3, 4, 5, 6, 7, 8], [0, 1, 2, 3, 4, 5, 6, 7, 8, 9], [0, 1, 2, 3, 4, 5, 6, 7, 8, 9, 10], [0, 1, 2, 3, 4, 5, 6, 7, 8, 9, 10, 11], [0, 1, 2, 3, 4, 5, 6, 7, 8, 9, 10, 11, 12], [0, 1, 2, 3, 4, 5, 6, 7, 8, 9, 10, 11, 12, 13], [0, 1, 2, 3, 4, 5, 6, 7, 8, 9, 10, 11, 12, 13, 14], [0, 1, 2, 3, 4, 5, 6, 7, 8, 9, 10, 11, 12, 13, 14, 15], [0, 1, 2, 3, 4, 5, 6, 7, 8, 9, 10, 11, 12, 13, 14, 15, 16], [0, 1, 2, 3, 4, 5, 6, 7, 8, 9, 10, 11, 12, 13, 14, 15, 16, 17], [0, 1, 2, 3, 4, 5, 6, 7, 8, 9, 10, 11, 12, 13, 14, 15, 16, 17, 18], [0, 1, 2, 3, 4, 5, 6, 7, 8, 9, 10, 11, 12, 13, 14, 15, 16, 17, 18, 19], [0, 1, 2, 3, 4, 5, 6, 7, 8, 9, 10, 11, 12, 13, 14, 15, 16, 17, 18, 19, 20], [0, 1, 2, 3, 4, 5, 6, 7, 8, 9, 10, 11, 12, 13, 14, 15, 16, 17, 18, 19, 20, 21], [0, 1, 2, 3, 4, 5, 6, 7, 8, 9, 10, 11, 12, 13, 14, 15, 16, 17, 18, 19, 20, 21, 22], [0, 1, 2, 3, 4, 5, 6, 7, 8, 9, 10, 11, 12, 13, 14, 15, 16, 17, 18, 19, 20, 21, 22, 23], [0, 1, 2, 3, 4, 5, 6, 7, 8, 9, 10, 11, 12, 13, 14, 15, 16, 17, 18, 19, 20, 21], [0, 1, 2, 3, 4, 5, 6, 7, 8, 9, 10, 11, 12, 13, 14, 15, 16, 17, 18, 19, 20, 21, 25], [0, 1, 2, 3, 4, 5, 6, 7, 8, 9, 10, 11, 12, 13, 14, 15, 16, 17, 18, 19, 20, 21, 25, 26], [0, 1, 2, 3, 4, 5, 6, 7, 8, 9, 10, 11, 12, 13, 14, 15, 16, 17, 18, 19, 20, 21, 25, 26, 27], [0, 1, 2, 3, 4, 5, 6, 7, 8, 9, 10, 11, 12, 13, 14, 15, 16, 17, 18, 19, 20, 21, 22, 23, 24, 25, 26, 27, 28], [0, 1, 2, 3, 4, 5, 6, 7, 8, 9, 10, 11, 12, 13, 14, 15, 16, 17, 18, 19, 20, 21, 22, 23, 24, 25, 26, 27, 28, 29], [0, 1, 2, 3, 4, 5, 6, 7, 8, 9, 10, 11, 12, 13, 14, 15, 16, 17, 18, 19, 20, 21, 22, 23, 24, 25, 26, 27, 28, 29, 30]])) (rs := [some (.no), some (.no), some (.no), some (.no), some (.no), some (.no), some (.no), some (.no), some (.cond true), some (.no), some (.no), some (.no), some (.eqv (.no) ⟨[(138, .int .i64 (v1.fType.length : Int))], [], []⟩), some (.no), some (.cond true), some (.no), some (.no), some (.no), some (.eqv (.no) ⟨[(144, .int .i64 (v1.fKids.length : Int))], [], []⟩), some (.no), some (.cond true), some (.no), some (.no), some (.no), some (.el (.sl (List.map I e_13_23))), some (.no), some (.no), some (.el (.agg [.int .i64 e_13_27.fOp, .int .i64 e_13_27.fN, .sl (List.map I e_13_27.fType), .sl (List.map GTerm_S e_13_27.fKids)])), some (.no), some (.call (.bool r_13_29) [] 1), some (.cond true), some (.no)]) (kt := [4]) (ko := []) (T' := [(4, .bool r_13_29)]) (O' := []) (by kernel_rfl) (And.intro hb_13_0 (And.intro hb_13_0 (And.intro hb_13_0 (And.intro hb_13_0 (And.intro hb_13_0 (And.intro hb_13_1 (And.intro hb_13_1 (And.intro hb_13_1 (And.intro (lenT (d := 138) I v1.fType) (And.intro hb_13_1 (And.intro hb_13_1 (And.intro hb_13_2 (And.intro hb_13_2 (And.intro hb_13_2 (And.intro (lenT (d := 144) GTerm_S v1.fKids) (And.intro hb_13_2 (And.intro hb_13_2 (And.intro hb_13_3 (And.intro hb_13_3 (And.intro (idx_own (enc := LI_s) hi_13_23) (And.intro hb_13_3 (And.intro (idx_sl (enc := LI_s) (x := .sl (List.map I e_13_23)) hi_13_23 (eq_LI_s e_13_23)).2 (And.intro hb_13_3 (And.intro hb_13_3 (And.intro hb_13_3 (And.intro (idx_sl (enc := GTerm_S) (x := .agg [.int .i64 e_13_27.fOp, .int .i64 e_13_27.fN, .sl (List.map I e_13_27.fType), .sl (List.map GTerm_S e_13_27.fKids)]) hi_13_27 (eq_GTerm_S e_13_27)) (And.intro hb_13_3 (And.intro hb_13_3 (And.intro (impl_isValue_ih _ _ hr_13_29) (And.intro bod_76 (And.intro (Or.inl rfl : ([] : List Nat) = [] ∨ noSh (.bool r_13_29) = true) (And.intro hb_13_3 trivial)))))))))))))))))))))))))))))))) (by kernel_rfl) (by kernel_rfl) ?_
                  obtain rfl := Option.some.inj h
                  exact Into.mk
                · refine Wp.reg tiok mix hc (by kernel_rfl) (ah := (some [[], [0], [0, 1], [0, 1, 2], [0, 1, 2, 3], [0, 1, 2, 3, 4], [0, 1, 2, 3], [0, 1, 2, 3, 4, 5, 6], [0, 1, 2, 3, 4, 5, 6, 7], [0, 1, 2, 3, 4, 5, 6, 7, 8], [0, 1, 2, 3, 4, 5, 6, 7, 8, 9], [0, 1, 2, 3, 4, 5, 6, 7, 8, 9, 10], [0, 1, 2, 3, 4, 5, 6, 7, 8, 9, 10, 11], [0, 1, 2, 3, 4, 5, 6, 7, 8, 9, 10, 11, 12], [0, 1, 2, 3, 4, 5, 6, 7, 8, 9, 10, 11, 12, 13], [0, 1, 2, 3, 4, 5, 6, 7, 8, 9, 10, 11, 12, 13, 14], [0, 1, 2, 3, 4, 5, 6, 7, 8, 9, 10, 11, 12, 13, 14, 15], [0, 1, 2, 3, 4, 5, 6, 7, 8, 9, 10, 11, 12, 13, 14, 15, 16], [0, 1, 2, 3, 4, 5, 6, 7, 8, 9, 10, 11, 12, 13, 14, 15, 16, 17], [0, 1, 2, 3, 4, 5, 6, 7, 8, 9, 10, 11, 12, 13, 14, 15, 16, 17, 18], [0, 1, 2, 3, 4, 5, 6, 7, 8, 9, 10, 11, 12, 13, 14, 15, 16, 17, 18, 19], [0, 1, 2, 3, 4, 5, 6, 7, 8, 9, 10, 11, 12, 13, 14, 15, 16, 17, 18, 19, 20], [0, 1, 2, 3, 4, 5, 6, 7, 8, 9, 10, 11, 12, 13, 14, 15, 16, 17, 18, 19, 20, 21], [0, 1, 2, 3, 4, 5, 6, 7, 8, 9, 10, 11, 12, 13, 14, 15, 16, 17, 18, 19, 20, 21, 22], [0, 1, 2, 3, 4, 5, 6, 7, 8, 9, 10, 11, 12, 13, 14, 15, 16, 17, 18, 19, 20, 21, 22, 23], [0, 1, 2, 3, 4, 5, 6, 7, 8, 9, 10, 11, 12, 13, 14, 15, 16, 17, 18, 19, 20, 21], [0, 1, 2, 3, 4, 5, 6, 7, 8, 9, 10, 11, 12, 13, 14, 15, 16, 17, 18, 19, 20, 21, 25], [0, 1, 2, 3, 4, 5, 6, 7, 8, 9, 10, 11, 12, 13, 14, 15, 16, 17, 18, 19, 20, 21, 25, 26], [0, 1, 2, 3, 4, 5, 6, 7, 8, 9, 10, 11, 12, 13, 14, 15, 16, 17, 18, 19, 20, 21, 25, 26, 27], [0, 1, 2, 3, 4, 5, 6, 7, 8, 9, 10, 11, 12, 13, 14, 15, 16, 17, 18, 19, 20, 21, 22, 23, 24, 25, 26, 27, 28], [0, 1, 2, 3, 4, 5, 6, 7, 8, 9, 10, 11, 12, 13, 14, 15, 16, 17, 18, 19, 20, 21, 22, 23, 24, 25, 26, 27, 28, 29], [0, 1, 2, 3, 4, 5, 6, 7, 8, 9, 10, 11, 12, 13, 14, 15, 16, 17, 18, 19, 20, 21, 22, 23, 24, 25, 26, 27, 28, 29, 30]])) (rs := [some (.no), some (.no), some (.no), some (.no), some (.no), some (.no), some (.no), some (.no), some (.cond true), some (.no), some (.no), some (.no), some (.eqv (.no) ⟨[(138, .int .i64 (v1.fType.length : Int))], [], []⟩), some (.no), some (.cond true), some (.no), some (.no), some (.no), some (.eqv (.no) ⟨[(144, .int .i64 (v1.fKids.length : Int))], [], []⟩), some (.no), some (.cond true), some (.no), none, none, none, none, none, none, none, none, some (.cond false), some (.no)]) (kt := [4]) (ko := []) (T' := [(4, .bool false)]) (O' := []) (by kernel_rfl) (And.intro hb_13_0 (And.intro hb_13_0 (And.intro hb_13_0 (And.intro hb_13_0 (And.intro hb_13_0 (And.intro hb_13_1 (And.intro hb_13_1 (And.intro hb_13_1 (And.intro (lenT (d := 138) I v1.fType) (And.intro hb_13_1 (And.intro hb_13_1 (And.intro hb_13_2 (And.intro hb_13_2 (And.intro hb_13_2 (And.intro (lenT (d := 144) GTerm_S v1.fKids) (And.intro hb_13_2 (And.intro hb_13_2 (And.intro (neT hb_13_3 : ((v1.fKids.length : Int) == 1) ≠ true) (And.intro (neT hb_13_3 : ((v1.fKids.length : Int) == 1) ≠ true) (And.intro (neT hb_13_3 : ((v1.fKids.length : Int) == 1) ≠ true) (And.intro (neT hb_13_3 : ((v1.fKids.length : Int) == 1) ≠ true) (And.intro (neT hb_13_3 : ((v1.fKids.length : Int) == 1) ≠ true) (And.intro (neT hb_13_3 : ((v1.fKids.length : Int) == 1) ≠ true) (And.intro (neT hb_13_3 : ((v1.fKids.length : Int) == 1) ≠ true) (And.intro (neT hb_13_3 : ((v1.fKids.length : Int) == 1) ≠ true) (And.intro hb_13_3 trivial)))))))))))))))))))))))))) (by kernel_rfl) (by kernel_rfl) ?_
                  obtain rfl := Option.some.inj h
                  exact Into.mk
              · refine Wp.reg tiok mix hc (by kernel_rfl) (ah := (some [[], [0], [0, 1], [0, 1, 2], [0, 1, 2, 3], [0, 1, 2, 3, 4], [0, 1, 2, 3], [0, 1, 2, 3, 4, 5, 6], [0, 1, 2, 3, 4, 5, 6, 7], [0, 1, 2, 3, 4, 5, 6, 7, 8], [0, 1, 2, 3, 4, 5, 6, 7, 8, 9], [0, 1, 2, 3, 4, 5, 6, 7, 8, 9, 10], [0, 1, 2, 3, 4, 5, 6, 7, 8, 9, 10, 11], [0, 1, 2, 3, 4, 5, 6, 7, 8, 9, 10, 11, 12], [0, 1, 2, 3, 4, 5, 6, 7, 8, 9, 10, 11, 12, 13], [0, 1, 2, 3, 4, 5, 6, 7, 8, 9, 10, 11, 12, 13, 14], [0, 1, 2, 3, 4, 5, 6, 7, 8, 9, 10, 11, 12, 13, 14, 15], [0, 1, 2, 3, 4, 5, 6, 7, 8, 9, 10, 11, 12, 13, 14, 15, 16], [0, 1, 2, 3, 4, 5, 6, 7, 8, 9, 10, 11, 12, 13, 14, 15, 16, 17], [0, 1, 2, 3, 4, 5, 6, 7, 8, 9, 10, 11, 12, 13, 14, 15, 16, 17, 18], [0, 1, 2, 3, 4, 5, 6, 7, 8, 9, 10, 11, 12, 13, 14, 15, 16, 17, 18, 19], [0, 1, 2, 3, 4, 5, 6, 7, 8, 9, 10, 11, 12, 13, 14, 15, 16, 17, 18, 19, 20], [0, 1, 2, 3, 4, 5, 6, 7, 8, 9, 10, 11, 12, 13, 14, 15, 16, 17, 18, 19, 20, 21], [0, 1, 2, 3, 4, 5, 6, 7, 8, 9, 10, 11, 12, 13, 14, 15, 16, 17, 18, 19, 20, 21, 22], [0, 1, 2, 3, 4, 5, 6, 7, 8, 9, 10, 11, 12, 13, 14, 15, 16, 17, 18, 19, 20, 21, 22, 23], [0, 1, 2, 3, 4, 5, 6, 7, 8, 9, 10, 11, 12, 13, 14, 15, 16, 17, 18, 19, 20, 21], [0, 1, 2, 3, 4, 5, 6, 7, 8, 9, 10, 11, 12, 13, 14, 15, 16, 17, 18, 19, 20, 21, 25], [0, 1, 2, 3, 4, 5, 6, 7, 8, 9, 10, 11, 12, 13, 14, 15, 16, 17, 18, 19, 20, 21, 25, 26], [0, 1, 2, 3, 4, 5, 6, 7, 8, 9, 10, 11, 12, 13, 14, 15, 16, 17, 18, 19, 20, 21, 25, 26, 27], [0, 1, 2, 3, 4, 5, 6, 7, 8, 9, 10, 11, 12, 13, 14, 15, 16, 17, 18, 19, 20, 21, 22, 23, 24, 25, 26, 27, 28], [0, 1, 2, 3, 4, 5, 6, 7, 8, 9, 10, 11, 12, 13, 14, 15, 16, 17, 18, 19, 20, 21, 22, 23, 24, 25, 26, 27, 28, 29], [0, 1, 2, 3, 4, 5, 6, 7, 8, 9, 10, 11, 12, 13, 14, 15, 16, 17, 18, 19, 20, 21, 22, 23, 24, 25, 26, 27, 28, 29, 30]])) (rs := [some (.no), some (.no), some (.no), some (.no), some (.no), some (.no), some (.no), some (.no), some (.cond true), some (.no), some (.no), some (.no), some (.eqv (.no) ⟨[(138, .int .i64 (v1.fType.length : Int))], [], []⟩), some (.no), some (.cond true), some (.no), none, none, none, none, some (.cond false), some (.no), none, none, none, none, none, none, none, none, some (.cond false), some (.no)]) (kt := [4]) (ko := []) (T' := [(4, .bool false)]) (O' := []) (by kernel_rfl) (And.intro hb_13_0 (And.intro hb_13_0 (And.intro hb_13_0 (And.intro hb_13_0 (And.intro hb_13_0 (And.intro hb_13_1 (And.intro hb_13_1 (And.intro hb_13_1 (And.intro (lenT (d := 138) I v1.fType) (And.intro hb_13_1 (And.intro hb_13_1 (And.intro (neT hb_13_2 : ((v1.fType.length : Int) == 0) ≠ true) (And.intro (neT hb_13_2 : ((v1.fType.length : Int) == 0) ≠ true) (And.intro (neT hb_13_2 : ((v1.fType.length : Int) == 0) ≠ true) (And.intro (neT hb_13_2 : ((v1.fType.length : Int) == 0) ≠ true) (And.intro hb_13_2 (And.intro (neT (rfl : false = false) : false ≠ true) (And.intro (neT (rfl : false = false) : false ≠ true) (And.intro (neT (rfl : false = false) : false ≠ true) (And.intro (neT (rfl : false = false) : false ≠ true) (And.intro (neT (rfl : false = false) : false ≠ true) (And.intro (neT (rfl : false = false) : false ≠ true) (And.intro (neT (rfl : false = false) : false ≠ true) (And.intro (neT (rfl : false = false) : false ≠ true) (And.intro (rfl : false = false) trivial))))))))))))))))))))))))) (by kernel_rfl) (by kernel_rfl) ?_
                obtain rfl := Option.some.inj h
                exact Into.mk
            · refine Wp.reg tiok mix hc (by kernel_rfl) (ah := (some [[], [0], [0, 1], [0, 1, 2], [0, 1, 2, 3], [0, 1, 2, 3, 4], [0, 1, 2, 3], [0, 1, 2, 3, 4, 5, 6], [0, 1, 2, 3, 4, 5, 6, 7], [0, 1, 2, 3, 4, 5, 6, 7, 8], [0, 1, 2, 3, 4, 5, 6, 7, 8, 9], [0, 1, 2, 3, 4, 5, 6, 7, 8, 9, 10], [0, 1, 2, 3, 4, 5, 6, 7, 8, 9, 10, 11], [0, 1, 2, 3, 4, 5, 6, 7, 8, 9, 10, 11, 12], [0, 1, 2, 3, 4, 5, 6, 7, 8, 9, 10, 11, 12, 13], [0, 1, 2, 3, 4, 5, 6, 7, 8, 9, 10, 11, 12, 13, 14], [0, 1, 2, 3, 4, 5, 6, 7, 8, 9, 10, 11, 12, 13, 14, 15], [0, 1, 2, 3, 4, 5, 6, 7, 8, 9, 10, 11, 12, 13, 14, 15, 16], [0, 1, 2, 3, 4, 5, 6, 7, 8, 9, 10, 11, 12, 13, 14, 15, 16, 17], [0, 1, 2, 3, 4, 5, 6, 7, 8, 9, 10, 11, 12, 13, 14, 15, 16, 17, 18], [0, 1, 2, 3, 4, 5, 6, 7, 8, 9, 10, 11, 12, 13, 14, 15, 16, 17, 18, 19], [0, 1, 2, 3, 4, 5, 6, 7, 8, 9, 10, 11, 12, 13, 14, 15, 16, 17, 18, 19, 20], [0, 1, 2, 3, 4, 5, 6, 7, 8, 9, 10, 11, 12, 13, 14, 15, 16, 17, 18, 19, 20, 21], [0, 1, 2, 3, 4, 5, 6, 7, 8, 9, 10, 11, 12, 13, 14, 15, 16, 17, 18, 19, 20, 21, 22], [0, 1, 2, 3, 4, 5, 6, 7, 8, 9, 10, 11, 12, 13, 14, 15, 16, 17, 18, 19, 20, 21, 22, 23], [0, 1, 2, 3, 4, 5, 6, 7, 8, 9, 10, 11, 12, 13, 14, 15, 16, 17, 18, 19, 20, 21], [0, 1, 2, 3, 4, 5, 6, 7, 8, 9, 10, 11, 12, 13, 14, 15, 16, 17, 18, 19, 20, 21, 25], [0, 1, 2, 3, 4, 5, 6, 7, 8, 9, 10, 11, 12, 13, 14, 15, 16, 17, 18, 19, 20, 21, 25, 26], [0, 1, 2, 3, 4, 5, 6, 7, 8, 9, 10, 11, 12, 13, 14, 15, 16, 17, 18, 19, 20, 21, 25, 26, 27], [0, 1, 2, 3, 4, 5, 6, 7, 8, 9, 10, 11, 12, 13, 14, 15, 16, 17, 18, 19, 20, 21, 22, 23, 24, 25, 26, 27, 28], [0, 1, 2, 3, 4, 5, 6, 7, 8, 9, 10, 11, 12, 13, 14, 15, 16, 17, 18, 19, 20, 21, 22, 23, 24, 25, 26, 27, 28, 29], [0, 1, 2, 3, 4, 5, 6, 7, 8, 9, 10, 11, 12, 13, 14, 15, 16, 17, 18, 19, 20, 21, 22, 23, 24, 25, 26, 27, 28, 29, 30]])) (rs := [some (.no), some (.no), some (.no), some (.no), some (.no), some (.no), some (.no), some (.no), some (.cond true), some (.no), none, none, none, none, some (.cond false), some (.no), none, none, none, none, some (.cond false), some (.no), none, none, none, none, none, none, none, none, some (.cond false), some (.no)]) (kt := [4]) (ko := []) (T' := [(4, .bool false)]) (O' := []) (by kernel_rfl) (And.intro hb_13_0 (And.intro hb_13_0 (And.intro hb_13_0 (And.intro hb_13_0 (And.intro hb_13_0 (And.intro (neT hb_13_1 : (v1.fN == r_1_3_1) ≠ true) (And.intro (neT hb_13_1 : (v1.fN == r_1_3_1) ≠ true) (And.intro (neT hb_13_1 : (v1.fN == r_1_3_1) ≠ true) (And.intro (neT hb_13_1 : (v1.fN == r_1_3_1) ≠ true) (And.intro hb_13_1 (And.intro (neT (rfl : false = false) : false ≠ true) (And.intro (neT (rfl : false = false) : false ≠ true) (And.intro (neT (rfl : false = false) : false ≠ true) (And.intro (neT (rfl : false = false) : false ≠ true) (And.intro (rfl : false = false) (And.intro (neT (rfl : false = false) : false ≠ true) (And.intro (neT (rfl : false = false) : false ≠ true) (And.intro (neT (rfl : false = false) : false ≠ true) (And.intro (neT (rfl : false = false) : false ≠ true) (And.intro (neT (rfl : false = false) : false ≠ true) (And.intro (neT (rfl : false = false) : false ≠ true) (And.intro (neT (rfl : false = false) : false ≠ true) (And.intro (neT (rfl : false = false) : false ≠ true) (And.intro (rfl : false = false) trivial)))))))))))))))))))))))) (by kernel_rfl) (by kernel_rfl) ?_
              obtain rfl := Option.some.inj h
              exact Into.mk
          · refine Wp.reg tiok mix hc (by kernel_rfl) (ah := (some [[], [0], [0, 1], [0, 1, 2], [0, 1, 2, 3], [0, 1, 2, 3, 4], [0, 1, 2, 3], [0, 1, 2, 3, 4, 5, 6], [0, 1, 2, 3, 4, 5, 6, 7], [0, 1, 2, 3, 4, 5, 6, 7, 8], [0, 1, 2, 3, 4, 5, 6, 7, 8, 9], [0, 1, 2, 3, 4, 5, 6, 7, 8, 9, 10], [0, 1, 2, 3, 4, 5, 6, 7, 8, 9, 10, 11], [0, 1, 2, 3, 4, 5, 6, 7, 8, 9, 10, 11, 12], [0, 1, 2, 3, 4, 5, 6, 7, 8, 9, 10, 11, 12, 13], [0, 1, 2, 3, 4, 5, 6, 7, 8, 9, 10, 11, 12, 13, 14], [0, 1, 2, 3, 4, 5, 6, 7, 8, 9, 10, 11, 12, 13, 14, 15], [0, 1, 2, 3, 4, 5, 6, 7, 8, 9, 10, 11, 12, 13, 14, 15, 16], [0, 1, 2, 3, 4, 5, 6, 7, 8, 9, 10, 11, 12, 13, 14, 15, 16, 17], [0, 1, 2, 3, 4, 5, 6, 7, 8, 9, 10, 11, 12, 13, 14, 15, 16, 17, 18], [0, 1, 2, 3, 4, 5, 6, 7, 8, 9, 10, 11, 12, 13, 14, 15, 16, 17, 18, 19], [0, 1, 2, 3, 4, 5, 6, 7, 8, 9, 10, 11, 12, 13, 14, 15, 16, 17, 18, 19, 20], [0, 1, 2, 3, 4, 5, 6, 7, 8, 9, 10, 11, 12, 13, 14, 15, 16, 17, 18, 19, 20, 21], [0, 1, 2, 3, 4, 5, 6, 7, 8, 9, 10, 11, 12, 13, 14, 15, 16, 17, 18, 19, 20, 21, 22], [0, 1, 2, 3, 4, 5, 6, 7, 8, 9, 10, 11, 12, 13, 14, 15, 16, 17, 18, 19, 20, 21, 22, 23], [0, 1, 2, 3, 4, 5, 6, 7, 8, 9, 10, 11, 12, 13, 14, 15, 16, 17, 18, 19, 20, 21], [0, 1, 2, 3, 4, 5, 6, 7, 8, 9, 10, 11, 12, 13, 14, 15, 16, 17, 18, 19, 20, 21, 25], [0, 1, 2, 3, 4, 5, 6, 7, 8, 9, 10, 11, 12, 13, 14, 15, 16, 17, 18, 19, 20, 21, 25, 26], [0, 1, 2, 3, 4, 5, 6, 7, 8, 9, 10, 11, 12, 13, 14, 15, 16, 17, 18, 19, 20, 21, 25, 26, 27], [0, 1, 2, 3, 4, 5, 6, 7, 8, 9, 10, 11, 12, 13, 14, 15, 16, 17, 18, 19, 20, 21, 22, 23, 24, 25, 26, 27, 28], [0, 1, 2, 3, 4, 5, 6, 7, 8, 9, 10, 11, 12, 13, 14, 15, 16, 17, 18, 19, 20, 21, 22, 23, 24, 25, 26, 27, 28, 29], [0, 1, 2, 3, 4, 5, 6, 7, 8, 9, 10, 11, 12, 13, 14, 15, 16, 17, 18, 19, 20, 21, 22, 23, 24, 25, 26, 27, 28, 29, 30]])) (rs := [some (.no), some (.no), some (.no), some (.no), none, none, none, none, some (.cond false), some (.no), none, none, none, none, some (.cond false), some (.no), none, none, none, none, some (.cond false), some (.no), none, none, none, none, none, none, none, none, some (.cond false), some (.no)]) (kt := [4]) (ko := []) (T' := [(4, .bool false)]) (O' := []) (by kernel_rfl) (And.intro (neT hb_13_0 : (v1.fOp == 11) ≠ true) (And.intro (neT hb_13_0 : (v1.fOp == 11) ≠ true) (And.intro (neT hb_13_0 : (v1.fOp == 11) ≠ true) (And.intro (neT hb_13_0 : (v1.fOp == 11) ≠ true) (And.intro hb_13_0 (And.intro (neT (rfl : false = false) : false ≠ true) (And.intro (neT (rfl : false = false) : false ≠ true) (And.intro (neT (rfl : false = false) : false ≠ true) (And.intro (neT (rfl : false = false) : false ≠ true) (And.intro (rfl : false = false) (And.intro (neT (rfl : false = false) : false ≠ true) (And.intro (neT (rfl : false = false) : false ≠ true) (And.intro (neT (rfl : false = false) : false ≠ true) (And.intro (neT (rfl : false = false) : false ≠ true) (And.intro (rfl : false = false) (And.intro (neT (rfl : false = false) : false ≠ true) (And.intro (neT (rfl : false = false) : false ≠ true) (And.intro (neT (rfl : false = false) : false ≠ true) (And.intro (neT (rfl : false = false) : false ≠ true) (And.intro (neT (rfl : false = false) : false ≠ true) (And.intro (neT (rfl : false = false) : false ≠ true) (And.intro (neT (rfl : false = false) : false ≠ true) (And.intro (neT (rfl : false = false) : false ≠ true) (And.intro (rfl : false = false) trivial)))))))))))))))))))))))) (by kernel_rfl) (by kernel_rfl) ?_
            obtain rfl := Option.some.inj h
            exact Into.mk
        · clear hj_14
          refine seqQ_norm ?_
          refine Wp.retN (by kernel_rfl) ?_
          obtain rfl := Option.some.inj h
          exact RetQ.ret (fl := [true]) (by kernel_rfl)
def impl_IsValue (p : GSystem × (List Int) × GTerm) : Option (Bool) :=
  match p with
  | (s0, ty1, v2) =>
    (
      (impl_IsData (s0, ty1)) >>= fun r_1_2 =>
      if r_1_2 = true then
        (impl_isValue (ty1, v2)) >>= fun r_1_6 =>
        some (r_1_6)
      else
        some (false)
    ) >>= fun v_1 =>
    some v_1
def M_impl_IsValue (p : GSystem × (List Int) × GTerm) (r : Bool) : Prop :=
  match p with
  | (s0, ty1, v2) => FnSound Try.prog 30 [.agg [.int .i64 s0.fSize, .sl (List.map I s0.fPlus), .sl (List.map I s0.fTimes), .sl (List.map AV.bool s0.fBelow)], .sl (List.map I ty1), .agg [.int .i64 v2.fOp, .int .i64 v2.fN, .sl (List.map I v2.fType), .sl (List.map GTerm_S v2.fKids)]] (.bool r) []
theorem impl_IsValue_s : ∀ p r, impl_IsValue p = some r → M_impl_IsValue p r := by
  rintro ⟨s0, ty1, v2⟩ r h
  unfold impl_IsValue at h
  show FnSound Try.prog 30 [.agg [.int .i64 s0.fSize, .sl (List.map I s0.fPlus), .sl (List.map I s0.fTimes), .sl (List.map AV.bool s0.fBelow)], .sl (List.map I ty1), .agg [.int .i64 v2.fOp, .int .i64 v2.fN, .sl (List.map I v2.fType), .sl (List.map GTerm_S v2.fKids)]] (.bool r) []
  refine FnSound.body0 tiok (fn := Try.f30) (code := B30) (by kernel_rfl) (by kernel_rfl) (by kernel_rfl) (by kernel_rfl) (nt := 15) (by kernel_rfl) (by kernel_rfl) (T := [(0, .agg [.int .i64 s0.fSize, .sl (List.map I s0.fPlus), .sl (List.map I s0.fTimes), .sl (List.map AV.bool s0.fBelow)]), (1, .sl (List.map I ty1)), (2, .agg [.int .i64 v2.fOp, .int .i64 v2.fN, .sl (List.map I v2.fType), .sl (List.map GTerm_S v2.fKids)])]) (O := []) (by kernel_rfl) (by kernel_rfl) (fun c hc => ?_)
  refine Wp.seqN (by kernel_rfl) ?_
  refine Wp.reg tiok mix hc (by kernel_rfl) (ah := none) (rs := [some (.new 1), some (.new 2), some (.no)]) (kt := [1, 3, 5]) (ko := [1, 2]) (T' := [(1, .sl (List.map I ty1)), (3, .ra 1 0), (5, .ra 2 0)]) (O' := [(1, .box [.int .i64 s0.fSize, .sl (List.map I s0.fPlus), .sl (List.map I s0.fTimes), .sl (List.map AV.bool s0.fBelow)]), (2, .box [.int .i64 v2.fOp, .int .i64 v2.fN, .sl (List.map I v2.fType), .sl (List.map GTerm_S v2.fKids)])]) (by kernel_rfl) trivial (by kernel_rfl) (by kernel_rfl) ?_
  refine seqQ_norm ?_
  refine Wp.seqN (by kernel_rfl) ?_
  obtain ⟨v_1, hj_2, h⟩ := bsome h
  refine Wp.into (x := .normal) (mkS [(6, .bool v_1)] []) ?_ ?_
  · replace h := hj_2
    obtain ⟨r_1_2, hr_1_2, h⟩ := bsome h
    rcases itesome h with ⟨hb_1_0, h⟩ | ⟨hb_1_0, h⟩
    · obtain ⟨r_1_6, hr_1_6, h⟩ := bsome h
      refine Wp.reg tiok mix hc (by kernel_rfl) (ah := none) (rs := [some (.no), some (.no), some (.call (.bool r_1_2) [] 1), some (.no), some (.no), some (.no), some (.call (.bool r_1_6) [] 1), some (.cond true), some (.no)]) (kt := [6]) (ko := []) (T' := [(6, .bool r_1_6)]) (O' := []) (by kernel_rfl) (And.intro (impl_IsData_s _ _ hr_1_2) (And.intro bod_75 (And.intro (Or.inl rfl : ([] : List Nat) = [] ∨ noSh (.bool r_1_2) = true) (And.intro hb_1_0 (And.intro hb_1_0 (And.intro hb_1_0 (And.intro (impl_isValue_s _ _ hr_1_6) (And.intro bod_76 (And.intro (Or.inl rfl : ([] : List Nat) = [] ∨ noSh (.bool r_1_6) = true) (And.intro hb_1_0 trivial)))))))))) (by kernel_rfl) (by kernel_rfl) ?_
      obtain rfl := Option.some.inj h
      exact Into.mk
    · refine Wp.reg tiok mix hc (by kernel_rfl) (ah := none) (rs := [some (.no), some (.no), some (.call (.bool r_1_2) [] 1), some (.no), none, none, none, some (.cond false), some (.no)]) (kt := [6]) (ko := []) (T' := [(6, .bool false)]) (O' := []) (by kernel_rfl) (And.intro (impl_IsData_s _ _ hr_1_2) (And.intro bod_75 (And.intro (Or.inl rfl : ([] : List Nat) = [] ∨ noSh (.bool r_1_2) = true) (And.intro (neT hb_1_0 : r_1_2 ≠ true) (And.intro (neT hb_1_0 : r_1_2 ≠ true) (And.intro (neT hb_1_0 : r_1_2 ≠ true) (And.intro hb_1_0 trivial))))))) (by kernel_rfl) (by kernel_rfl) ?_
      obtain rfl := Option.some.inj h
      exact Into.mk
  · clear hj_2
    refine seqQ_norm ?_
    refine Wp.retN (by kernel_rfl) ?_
    obtain rfl := Option.some.inj h
    exact RetQ.ret (fl := [true]) (by kernel_rfl)
def laws_eqIntS_F1 (c : Ctx) : (Unit) ⊕ (Bool) → Exit → AState → Prop
  | .inl _ => Into c (.exit 0) (mkS [] [])
  | .inr r => RetE TIx Try.f18 [] (.bool r)
def laws_eqIntS_l0 (p : (List Int) × (List Int) × Int) : Option ((Unit) ⊕ (Bool)) :=
  match p with
  | (a0, b1, i_4) =>
    if (decide (i_4 < (a0.length : Int))) = true then
      (idx a0 i_4) >>= fun e_6_2 =>
      (idx b1 i_4) >>= fun e_6_6 =>
      if (e_6_2 != e_6_6) = true then
        some (.inr false)
      else
        laws_eqIntS_l0 (a0, b1, (wr (i_4 + 1)))
    else
      some (.inl ())
  partial_fixpoint
def M_laws_eqIntS_l0 (p : (List Int) × (List Int) × Int) (fl : (Unit) ⊕ (Bool)) : Prop :=
  match p with
  | (a0, b1, i_4) => ∀ c : Ctx, c.nt = 26 → WpL Try.prog c (cl (cl (cr (cl (cr (cr B18)))))) (laws_eqIntS_F1 c fl) (mkS [(0, .sl (List.map I a0)), (1, .sl (List.map I b1)), (5, .int .i64 i_4)] [])
theorem laws_eqIntS_l0_s : ∀ p r, laws_eqIntS_l0 p = some r → M_laws_eqIntS_l0 p r := by
  refine laws_eqIntS_l0.partial_correctness M_laws_eqIntS_l0 ?_
  rintro laws_eqIntS_l0_f laws_eqIntS_l0_ih ⟨a0, b1, i_4⟩ r h
  intro c hc
  show WpL Try.prog c (cl (cl (cr (cl (cr (cr B18)))))) (laws_eqIntS_F1 c r) (mkS [(0, .sl (List.map I a0)), (1, .sl (List.map I b1)), (5, .int .i64 i_4)] [])
  refine WpL.step ?_
  refine Wp.seqN (by kernel_rfl) ?_
  refine Wp.seqN (by kernel_rfl) ?_
  refine Wp.reg tiok mix hc (by kernel_rfl) (ah := none) (rs := [some (.no), some (.no), some (.eqv (.no) ⟨[(13, .int .i64 (a0.length : Int))], [], []⟩), some (.no)]) (kt := [0, 1, 5, 14]) (ko := []) (T' := [(0, .sl (List.map I a0)), (1, .sl (List.map I b1)), (5, .int .i64 i_4), (14, .bool (decide (i_4 < (a0.length : Int))))]) (O' := []) (by kernel_rfl) (And.intro (lenT (d := 13) I a0) trivial) (by kernel_rfl) (by kernel_rfl) ?_
  refine seqQ_norm ?_
  rcases itesome h with ⟨hb_5, h⟩ | ⟨hb_5, h⟩
  · refine Wp.condT (b := (decide (i_4 < (a0.length : Int)))) (by kernel_rfl) (by kernel_rfl) hb_5 ?_
    refine Wp.skipN (by kernel_rfl) ?_
    refine seqQ_norm ?_
    refine Wp.seqN (by kernel_rfl) ?_
    refine Wp.blockN (i := 1) (by kernel_rfl) ?_
    refine Wp.seqN (by kernel_rfl) ?_
    obtain ⟨e_6_2, hi_6_2, h⟩ := bsome h
    obtain ⟨e_6_6, hi_6_6, h⟩ := bsome h
    refine Wp.reg tiok mix hc (by kernel_rfl) (ah := (some [[], [], [0, 1], [0, 1, 2], [], [], [4, 5], [4, 5, 6], [0, 1, 2, 3, 4, 5, 6, 7]])) (rs := [some (.no), some (.no), some (.el (.int .i64 e_6_2)), some (.no), some (.no), some (.no), some (.el (.int .i64 e_6_6)), some (.no), some (.no)]) (kt := [0, 1, 5, 25]) (ko := []) (T' := [(0, .sl (List.map I a0)), (1, .sl (List.map I b1)), (5, .int .i64 i_4), (25, .bool (e_6_2 != e_6_6))]) (O' := []) (by kernel_rfl) (And.intro (idx_sl (enc := I) (x := .int .i64 e_6_2) hi_6_2 (eq_I e_6_2)) (And.intro (idx_sl (enc := I) (x := .int .i64 e_6_6) hi_6_6 (eq_I e_6_6)) trivial)) (by kernel_rfl) (by kernel_rfl) ?_
    refine seqQ_norm ?_
    rcases itesome h with ⟨hb_6, h⟩ | ⟨hb_6, h⟩
    · refine Wp.condT (b := (e_6_2 != e_6_6)) (by kernel_rfl) (by kernel_rfl) hb_6 ?_
      refine Wp.seqN (by kernel_rfl) ?_
      refine Wp.reg tiok mix hc (by kernel_rfl) (ah := none) (rs := [some (.no)]) (kt := [4]) (ko := []) (T' := [(4, .bool false)]) (O' := []) (by kernel_rfl) trivial (by kernel_rfl) (by kernel_rfl) ?_
      refine seqQ_norm ?_
      refine Wp.retN (by kernel_rfl) ?_
      refine blockQ_ret ?_
      refine seqQ_ret ?_
      refine loopQ_ret ?_
      obtain rfl := Option.some.inj h
      exact RetE.ret (fl := [true]) (by kernel_rfl)
    · refine Wp.condF (b := (e_6_2 != e_6_6)) (by kernel_rfl) (by kernel_rfl) hb_6 ?_
      refine Wp.skipN (by kernel_rfl) ?_
      refine blockQ_norm ?_
      refine seqQ_norm ?_
      refine Wp.reg tiok mix hc (by kernel_rfl) (ah := none) (rs := [some (.no), some (.no), some (.no)]) (kt := [0, 1, 5]) (ko := []) (T' := [(0, .sl (List.map I a0)), (1, .sl (List.map I b1)), (5, .int .i64 (wr (i_4 + 1)))]) (O' := []) (by kernel_rfl) trivial (by kernel_rfl) (by kernel_rfl) ?_
      refine loopQ_norm ?_
      exact (laws_eqIntS_l0_ih _ _ h c hc)
  · refine Wp.condF (b := (decide (i_4 < (a0.length : Int)))) (by kernel_rfl) (by kernel_rfl) hb_5 ?_
    refine Wp.exitN (i := 0) (by kernel_rfl) ?_
    refine seqQ_exit ?_
    refine loopQ_exit ?_
    obtain rfl := Option.some.inj h
    exact Into.view (fun a w hv => SRx.renL [] hv (by kernel_rfl) (by kernel_rfl) (by kernel_rfl))
def laws_eqIntS (p : (List Int) × (List Int)) : Option (Bool) :=
  match p with
  | (a0, b1) =>
    if ((a0.length : Int) != (b1.length : Int)) = true then
      some false
    else
      (laws_eqIntS_l0 (a0, b1, 0)) >>= fun fl => match fl with
      | .inl () =>
        some true
      | .inr r =>
        some r
def M_laws_eqIntS (p : (List Int) × (List Int)) (r : Bool) : Prop :=
  match p with
  | (a0, b1) => FnSound Try.prog 18 [.sl (List.map I a0), .sl (List.map I b1)] (.bool r) []
theorem laws_eqIntS_s : ∀ p r, laws_eqIntS p = some r → M_laws_eqIntS p r := by
  rintro ⟨a0, b1⟩ r h
  unfold laws_eqIntS at h
  show FnSound Try.prog 18 [.sl (List.map I a0), .sl (List.map I b1)] (.bool r) []
  refine FnSound.body0 tiok (fn := Try.f18) (code := B18) (by kernel_rfl) (by kernel_rfl) (by kernel_rfl) (by kernel_rfl) (nt := 26) (by kernel_rfl) (by kernel_rfl) (T := [(0, .sl (List.map I a0)), (1, .sl (List.map I b1))]) (O := []) (by kernel_rfl) (by kernel_rfl) (fun c hc => ?_)
  refine Wp.seqN (by kernel_rfl) ?_
  refine Wp.reg tiok mix hc (by kernel_rfl) (ah := none) (rs := [some (.no)]) (kt := [0, 1]) (ko := []) (T' := [(0, .sl (List.map I a0)), (1, .sl (List.map I b1))]) (O' := []) (by kernel_rfl) trivial (by kernel_rfl) (by kernel_rfl) ?_
  refine seqQ_norm ?_
  refine Wp.seqN (by kernel_rfl) ?_
  refine Wp.seqN (by kernel_rfl) ?_
  refine Wp.reg tiok mix hc (by kernel_rfl) (ah := none) (rs := [some (.no), some (.eqv (.no) ⟨[(7, .int .i64 (a0.length : Int))], [], []⟩), some (.no), some (.eqv (.no) ⟨[(9, .int .i64 (b1.length : Int))], [], []⟩), some (.no)]) (kt := [0, 1, 10]) (ko := []) (T' := [(0, .sl (List.map I a0)), (1, .sl (List.map I b1)), (10, .bool ((a0.length : Int) != (b1.length : Int)))]) (O' := []) (by kernel_rfl) (And.intro (lenT (d := 7) I a0) (And.intro (lenT (d := 9) I b1) trivial)) (by kernel_rfl) (by kernel_rfl) ?_
  refine seqQ_norm ?_
  rcases itesome h with ⟨hb_1, h⟩ | ⟨hb_1, h⟩
  · refine Wp.condT (b := ((a0.length : Int) != (b1.length : Int))) (by kernel_rfl) (by kernel_rfl) hb_1 ?_
    refine Wp.seqN (by kernel_rfl) ?_
    refine Wp.reg tiok mix hc (by kernel_rfl) (ah := none) (rs := [some (.no)]) (kt := [4]) (ko := []) (T' := [(4, .bool false)]) (O' := []) (by kernel_rfl) trivial (by kernel_rfl) (by kernel_rfl) ?_
    refine seqQ_norm ?_
    refine Wp.retN (by kernel_rfl) ?_
    refine seqQ_ret ?_
    obtain rfl := Option.some.inj h
    exact RetQ.ret (fl := [true]) (by kernel_rfl)
  · refine Wp.condF (b := ((a0.length : Int) != (b1.length : Int))) (by kernel_rfl) (by kernel_rfl) hb_1 ?_
    refine Wp.skipN (by kernel_rfl) ?_
    refine seqQ_norm ?_
    refine Wp.seqN (by kernel_rfl) ?_
    refine Wp.seqN (by kernel_rfl) ?_
    refine Wp.reg tiok mix hc (by kernel_rfl) (ah := none) (rs := [some (.no)]) (kt := [0, 1, 5]) (ko := []) (T' := [(0, .sl (List.map I a0)), (1, .sl (List.map I b1)), (5, .int .i64 0)]) (O' := []) (by kernel_rfl) trivial (by kernel_rfl) (by kernel_rfl) ?_
    refine seqQ_norm ?_
    refine Wp.blockN (i := 0) (by kernel_rfl) ?_
    obtain ⟨fl, hl_7, h⟩ := bsome h
    have hL := laws_eqIntS_l0_s _ _ hl_7 c hc
    refine Wp.loopN (by kernel_rfl) ?_
    rcases fl with ⟨⟩ | r
    · refine WpL.into (e := (.exit 0)) (mkS [] []) hL ?_
      refine blockQ_hit ?_
      refine seqQ_norm ?_
      refine Wp.seqN (by kernel_rfl) ?_
      refine Wp.reg tiok mix hc (by kernel_rfl) (ah := none) (rs := [some (.no)]) (kt := [4]) (ko := []) (T' := [(4, .bool true)]) (O' := []) (by kernel_rfl) trivial (by kernel_rfl) (by kernel_rfl) ?_
      refine seqQ_norm ?_
      refine Wp.retN (by kernel_rfl) ?_
      obtain rfl := Option.some.inj h
      exact RetQ.ret (fl := [true]) (by kernel_rfl)
    · refine WpL.mono hL ?_
      rintro _ _ ⟨rfl, hfin⟩
      refine blockQ_ret ?_
      refine seqQ_ret ?_
      obtain rfl := Option.some.inj h
      exact ⟨.inl rfl, hfin⟩
def laws_eqBoolS_F1 (c : Ctx) : (Unit) ⊕ (Bool) → Exit → AState → Prop
  | .inl _ => Into c (.exit 0) (mkS [] [])
  | .inr r => RetE TIx Try.f50 [] (.bool r)
def laws_eqBoolS_l0 (p : (List Bool) × (List Bool) × Int) : Option ((Unit) ⊕ (Bool)) :=
  match p with
  | (a0, b1, i_4) =>
    if (decide (i_4 < (a0.length : Int))) = true then
      (idx a0 i_4) >>= fun e_6_2 =>
      (idx b1 i_4) >>= fun e_6_6 =>
      if (e_6_2 == e_6_6) = true then
        laws_eqBoolS_l0 (a0, b1, (wr (i_4 + 1)))
      else
        some (.inr false)
    else
      some (.inl ())
  partial_fixpoint
def M_laws_eqBoolS_l0 (p : (List Bool) × (List Bool) × Int) (fl : (Unit) ⊕ (Bool)) : Prop :=
  match p with
  | (a0, b1, i_4) => ∀ c : Ctx, c.nt = 26 → WpL Try.prog c (cl (cl (cr (cl (cr (cr B50)))))) (laws_eqBoolS_F1 c fl) (mkS [(0, .sl (List.map AV.bool a0)), (1, .sl (List.map AV.bool b1)), (5, .int .i64 i_4)] [])
theorem laws_eqBoolS_l0_s : ∀ p r, laws_eqBoolS_l0 p = some r → M_laws_eqBoolS_l0 p r := by
  refine laws_eqBoolS_l0.partial_correctness M_laws_eqBoolS_l0 ?_
  rintro laws_eqBoolS_l0_f laws_eqBoolS_l0_ih ⟨a0, b1, i_4⟩ r h
  intro c hc
  show WpL Try.prog c (cl (cl (cr (cl (cr (cr B50)))))) (laws_eqBoolS_F1 c r) (mkS [(0, .sl (List.map AV.bool a0)), (1, .sl (List.map AV.bool b1)), (5, .int .i64 i_4)] [])
  refine WpL.step ?_
  refine Wp.seqN (by kernel_rfl) ?_
  refine Wp.seqN (by kernel_rfl) ?_
  refine Wp.reg tiok mix hc (by kernel_rfl) (ah := none) (rs := [some (.no), some (.no), some (.eqv (.no) ⟨[(13, .int .i64 (a0.length : Int))], [], []⟩), some (.no)]) (kt := [0, 1, 5, 14]) (ko := []) (T' := [(0, .sl (List.map AV.bool a0)), (1, .sl (List.map AV.bool b1)), (5, .int .i64 i_4), (14, .bool (decide (i_4 < (a0.length : Int))))]) (O' := []) (by kernel_rfl) (And.intro (lenT (d := 13) AV.bool a0) trivial) (by kernel_rfl) (by kernel_rfl) ?_
  refine seqQ_norm ?_
  rcases itesome h with ⟨hb_5, h⟩ | ⟨hb_5, h⟩
  · refine Wp.condT (b := (decide (i_4 < (a0.length : Int)))) (by kernel_rfl) (by kernel_rfl) hb_5 ?_
    refine Wp.skipN (by kernel_rfl) ?_
    refine seqQ_norm ?_
    refine Wp.seqN (by kernel_rfl) ?_
    refine Wp.blockN (i := 1) (by kernel_rfl) ?_
    refine Wp.seqN (by kernel_rfl) ?_
    obtain ⟨e_6_2, hi_6_2, h⟩ := bsome h
    obtain ⟨e_6_6, hi_6_6, h⟩ := bsome h
    refine Wp.reg tiok mix hc (by kernel_rfl) (ah := (some [[], [], [0, 1], [0, 1, 2], [], [], [4, 5], [4, 5, 6], [0, 1, 2, 3, 4, 5, 6, 7]])) (rs := [some (.no), some (.no), some (.el (.bool e_6_2)), some (.no), some (.no), some (.no), some (.el (.bool e_6_6)), some (.no), some (.no)]) (kt := [0, 1, 5, 25]) (ko := []) (T' := [(0, .sl (List.map AV.bool a0)), (1, .sl (List.map AV.bool b1)), (5, .int .i64 i_4), (25, .bool (!(e_6_2 == e_6_6)))]) (O' := []) (by kernel_rfl) (And.intro (idx_sl (enc := AV.bool) (x := .bool e_6_2) hi_6_2 (eq_B e_6_2)) (And.intro (idx_sl (enc := AV.bool) (x := .bool e_6_6) hi_6_6 (eq_B e_6_6)) trivial)) (by kernel_rfl) (by kernel_rfl) ?_
    refine seqQ_norm ?_
    rcases itesome h with ⟨hb_6, h⟩ | ⟨hb_6, h⟩
    · refine Wp.condF (b := (!(e_6_2 == e_6_6))) (by kernel_rfl) (by kernel_rfl) (nF hb_6) ?_
      refine Wp.skipN (by kernel_rfl) ?_
      refine blockQ_norm ?_
      refine seqQ_norm ?_
      refine Wp.reg tiok mix hc (by kernel_rfl) (ah := none) (rs := [some (.no), some (.no), some (.no)]) (kt := [0, 1, 5]) (ko := []) (T' := [(0, .sl (List.map AV.bool a0)), (1, .sl (List.map AV.bool b1)), (5, .int .i64 (wr (i_4 + 1)))]) (O' := []) (by kernel_rfl) trivial (by kernel_rfl) (by kernel_rfl) ?_
      refine loopQ_norm ?_
      exact (laws_eqBoolS_l0_ih _ _ h c hc)
    · refine Wp.condT (b := (!(e_6_2 == e_6_6))) (by kernel_rfl) (by kernel_rfl) (nT hb_6) ?_
      refine Wp.seqN (by kernel_rfl) ?_
      refine Wp.reg tiok mix hc (by kernel_rfl) (ah := none) (rs := [some (.no)]) (kt := [4]) (ko := []) (T' := [(4, .bool false)]) (O' := []) (by kernel_rfl) trivial (by kernel_rfl) (by kernel_rfl) ?_
      refine seqQ_norm ?_
      refine Wp.retN (by kernel_rfl) ?_
      refine blockQ_ret ?_
      refine seqQ_ret ?_
      refine loopQ_ret ?_
      obtain rfl := Option.some.inj h
      exact RetE.ret (fl := [true]) (by kernel_rfl)
  · refine Wp.condF (b := (decide (i_4 < (a0.length : Int)))) (by kernel_rfl) (by kernel_rfl) hb_5 ?_
    refine Wp.exitN (i := 0) (by kernel_rfl) ?_
    refine seqQ_exit ?_
    refine loopQ_exit ?_
    obtain rfl := Option.some.inj h
    exact Into.view (fun a w hv => SRx.renL [] hv (by kernel_rfl) (by kernel_rfl) (by kernel_rfl))
def laws_eqBoolS (p : (List Bool) × (List Bool)) : Option (Bool) :=
  match p with
  | (a0, b1) =>
    if ((a0.length : Int) != (b1.length : Int)) = true then
      some false
    else
      (laws_eqBoolS_l0 (a0, b1, 0)) >>= fun fl => match fl with
      | .inl () =>
        some true
      | .inr r =>
        some r
def M_laws_eqBoolS (p : (List Bool) × (List Bool)) (r : Bool) : Prop :=
  match p with
  | (a0, b1) => FnSound Try.prog 50 [.sl (List.map AV.bool a0), .sl (List.map AV.bool b1)] (.bool r) []
theorem laws_eqBoolS_s : ∀ p r, laws_eqBoolS p = some r → M_laws_eqBoolS p r := by
  rintro ⟨a0, b1⟩ r h
  unfold laws_eqBoolS at h
  show FnSound Try.prog 50 [.sl (List.map AV.bool a0), .sl (List.map AV.bool b1)] (.bool r) []
  refine FnSound.body0 tiok (fn := Try.f50) (code := B50) (by kernel_rfl) (by kernel_rfl) (by kernel_rfl) (by kernel_rfl) (nt := 26) (by kernel_rfl) (by kernel_rfl) (T := [(0, .sl (List.map AV.bool a0)), (1, .sl (List.map AV.bool b1))]) (O := []) (by kernel_rfl) (by kernel_rfl) (fun c hc => ?_)
  refine Wp.seqN (by kernel_rfl) ?_
  refine Wp.reg tiok mix hc (by kernel_rfl) (ah := none) (rs := [some (.no)]) (kt := [0, 1]) (ko := []) (T' := [(0, .sl (List.map AV.bool a0)), (1, .sl (List.map AV.bool b1))]) (O' := []) (by kernel_rfl) trivial (by kernel_rfl) (by kernel_rfl) ?_
  refine seqQ_norm ?_
  refine Wp.seqN (by kernel_rfl) ?_
  refine Wp.seqN (by kernel_rfl) ?_
  refine Wp.reg tiok mix hc (by kernel_rfl) (ah := none) (rs := [some (.no), some (.eqv (.no) ⟨[(7, .int .i64 (a0.length : Int))], [], []⟩), some (.no), some (.eqv (.no) ⟨[(9, .int .i64 (b1.length : Int))], [], []⟩), some (.no)]) (kt := [0, 1, 10]) (ko := []) (T' := [(0, .sl (List.map AV.bool a0)), (1, .sl (List.map AV.bool b1)), (10, .bool ((a0.length : Int) != (b1.length : Int)))]) (O' := []) (by kernel_rfl) (And.intro (lenT (d := 7) AV.bool a0) (And.intro (lenT (d := 9) AV.bool b1) trivial)) (by kernel_rfl) (by kernel_rfl) ?_
  refine seqQ_norm ?_
  rcases itesome h with ⟨hb_1, h⟩ | ⟨hb_1, h⟩
  · refine Wp.condT (b := ((a0.length : Int) != (b1.length : Int))) (by kernel_rfl) (by kernel_rfl) hb_1 ?_
    refine Wp.seqN (by kernel_rfl) ?_
    refine Wp.reg tiok mix hc (by kernel_rfl) (ah := none) (rs := [some (.no)]) (kt := [4]) (ko := []) (T' := [(4, .bool false)]) (O' := []) (by kernel_rfl) trivial (by kernel_rfl) (by kernel_rfl) ?_
    refine seqQ_norm ?_
    refine Wp.retN (by kernel_rfl) ?_
    refine seqQ_ret ?_
    obtain rfl := Option.some.inj h
    exact RetQ.ret (fl := [true]) (by kernel_rfl)
  · refine Wp.condF (b := ((a0.length : Int) != (b1.length : Int))) (by kernel_rfl) (by kernel_rfl) hb_1 ?_
    refine Wp.skipN (by kernel_rfl) ?_
    refine seqQ_norm ?_
    refine Wp.seqN (by kernel_rfl) ?_
    refine Wp.seqN (by kernel_rfl) ?_
    refine Wp.reg tiok mix hc (by kernel_rfl) (ah := none) (rs := [some (.no)]) (kt := [0, 1, 5]) (ko := []) (T' := [(0, .sl (List.map AV.bool a0)), (1, .sl (List.map AV.bool b1)), (5, .int .i64 0)]) (O' := []) (by kernel_rfl) trivial (by kernel_rfl) (by kernel_rfl) ?_
    refine seqQ_norm ?_
    refine Wp.blockN (i := 0) (by kernel_rfl) ?_
    obtain ⟨fl, hl_7, h⟩ := bsome h
    have hL := laws_eqBoolS_l0_s _ _ hl_7 c hc
    refine Wp.loopN (by kernel_rfl) ?_
    rcases fl with ⟨⟩ | r
    · refine WpL.into (e := (.exit 0)) (mkS [] []) hL ?_
      refine blockQ_hit ?_
      refine seqQ_norm ?_
      refine Wp.seqN (by kernel_rfl) ?_
      refine Wp.reg tiok mix hc (by kernel_rfl) (ah := none) (rs := [some (.no)]) (kt := [4]) (ko := []) (T' := [(4, .bool true)]) (O' := []) (by kernel_rfl) trivial (by kernel_rfl) (by kernel_rfl) ?_
      refine seqQ_norm ?_
      refine Wp.retN (by kernel_rfl) ?_
      obtain rfl := Option.some.inj h
      exact RetQ.ret (fl := [true]) (by kernel_rfl)
    · refine WpL.mono hL ?_
      rintro _ _ ⟨rfl, hfin⟩
      refine blockQ_ret ?_
      refine seqQ_ret ?_
      obtain rfl := Option.some.inj h
      exact ⟨.inl rfl, hfin⟩
def laws_eqSystem (p : GSystem × GSystem) : Option (Bool) :=
  match p with
  | (a0, b1) =>
    if (a0.fSize != b1.fSize) = true then
      some false
    else
      (laws_eqIntS (a0.fPlus, b1.fPlus)) >>= fun r_3_4 =>
      if r_3_4 = true then
        (laws_eqIntS (a0.fTimes, b1.fTimes)) >>= fun r_5_4 =>
        if r_5_4 = true then
          (laws_eqBoolS (a0.fBelow, b1.fBelow)) >>= fun r_7_4 =>
          if r_7_4 = true then
            some true
          else
            some false
        else
          some false
      else
        some false
def M_laws_eqSystem (p : GSystem × GSystem) (r : Bool) : Prop :=
  match p with
  | (a0, b1) => FnSound Try.prog 17 [.agg [.int .i64 a0.fSize, .sl (List.map I a0.fPlus), .sl (List.map I a0.fTimes), .sl (List.map AV.bool a0.fBelow)], .agg [.int .i64 b1.fSize, .sl (List.map I b1.fPlus), .sl (List.map I b1.fTimes), .sl (List.map AV.bool b1.fBelow)]] (.bool r) []
theorem laws_eqSystem_s : ∀ p r, laws_eqSystem p = some r → M_laws_eqSystem p r := by
  rintro ⟨a0, b1⟩ r h
  unfold laws_eqSystem at h
  show FnSound Try.prog 17 [.agg [.int .i64 a0.fSize, .sl (List.map I a0.fPlus), .sl (List.map I a0.fTimes), .sl (List.map AV.bool a0.fBelow)], .agg [.int .i64 b1.fSize, .sl (List.map I b1.fPlus), .sl (List.map I b1.fTimes), .sl (List.map AV.bool b1.fBelow)]] (.bool r) []
  refine FnSound.body0 tiok (fn := Try.f17) (code := B17) (by kernel_rfl) (by kernel_rfl) (by kernel_rfl) (by kernel_rfl) (nt := 28) (by kernel_rfl) (by kernel_rfl) (T := [(0, .agg [.int .i64 a0.fSize, .sl (List.map I a0.fPlus), .sl (List.map I a0.fTimes), .sl (List.map AV.bool a0.fBelow)]), (1, .agg [.int .i64 b1.fSize, .sl (List.map I b1.fPlus), .sl (List.map I b1.fTimes), .sl (List.map AV.bool b1.fBelow)])]) (O := []) (by kernel_rfl) (by kernel_rfl) (fun c hc => ?_)
  refine Wp.seqN (by kernel_rfl) ?_
  refine Wp.reg tiok mix hc (by kernel_rfl) (ah := none) (rs := [some (.new 1), some (.new 2), some (.no)]) (kt := [2, 3]) (ko := [1, 2]) (T' := [(2, .ra 1 0), (3, .ra 2 0)]) (O' := [(1, .box [.int .i64 a0.fSize, .sl (List.map I a0.fPlus), .sl (List.map I a0.fTimes), .sl (List.map AV.bool a0.fBelow)]), (2, .box [.int .i64 b1.fSize, .sl (List.map I b1.fPlus), .sl (List.map I b1.fTimes), .sl (List.map AV.bool b1.fBelow)])]) (by kernel_rfl) trivial (by kernel_rfl) (by kernel_rfl) ?_
  refine seqQ_norm ?_
  refine Wp.seqN (by kernel_rfl) ?_
  refine Wp.seqN (by kernel_rfl) ?_
  refine Wp.reg tiok mix hc (by kernel_rfl) (ah := none) (rs := [some (.no), some (.no), some (.no), some (.no), some (.no)]) (kt := [2, 3, 9]) (ko := [1, 2]) (T' := [(2, .ra 1 0), (3, .ra 2 0), (9, .bool (a0.fSize != b1.fSize))]) (O' := [(1, .box [.int .i64 a0.fSize, .sl (List.map I a0.fPlus), .sl (List.map I a0.fTimes), .sl (List.map AV.bool a0.fBelow)]), (2, .box [.int .i64 b1.fSize, .sl (List.map I b1.fPlus), .sl (List.map I b1.fTimes), .sl (List.map AV.bool b1.fBelow)])]) (by kernel_rfl) trivial (by kernel_rfl) (by kernel_rfl) ?_
  refine seqQ_norm ?_
  rcases itesome h with ⟨hb_1, h⟩ | ⟨hb_1, h⟩
  · refine Wp.condT (b := (a0.fSize != b1.fSize)) (by kernel_rfl) (by kernel_rfl) hb_1 ?_
    refine Wp.seqN (by kernel_rfl) ?_
    refine Wp.reg tiok mix hc (by kernel_rfl) (ah := none) (rs := [some (.no)]) (kt := [4]) (ko := []) (T' := [(4, .bool false)]) (O' := []) (by kernel_rfl) trivial (by kernel_rfl) (by kernel_rfl) ?_
    refine seqQ_norm ?_
    refine Wp.retN (by kernel_rfl) ?_
    refine seqQ_ret ?_
    obtain rfl := Option.some.inj h
    exact RetQ.ret (fl := [true]) (by kernel_rfl)
  · refine Wp.condF (b := (a0.fSize != b1.fSize)) (by kernel_rfl) (by kernel_rfl) hb_1 ?_
    refine Wp.skipN (by kernel_rfl) ?_
    refine seqQ_norm ?_
    refine Wp.seqN (by kernel_rfl) ?_
    refine Wp.seqN (by kernel_rfl) ?_
    obtain ⟨r_3_4, hr_3_4, h⟩ := bsome h
    refine Wp.reg tiok mix hc (by kernel_rfl) (ah := none) (rs := [some (.no), some (.no), some (.no), some (.no), some (.call (.bool r_3_4) [] 1), some (.no)]) (kt := [2, 3, 15]) (ko := [1, 2]) (T' := [(2, .ra 1 0), (3, .ra 2 0), (15, .bool (!r_3_4))]) (O' := [(1, .box [.int .i64 a0.fSize, .sl (List.map I a0.fPlus), .sl (List.map I a0.fTimes), .sl (List.map AV.bool a0.fBelow)]), (2, .box [.int .i64 b1.fSize, .sl (List.map I b1.fPlus), .sl (List.map I b1.fTimes), .sl (List.map AV.bool b1.fBelow)])]) (by kernel_rfl) (And.intro (laws_eqIntS_s _ _ hr_3_4) (And.intro bod_18 (And.intro (Or.inl rfl : ([] : List Nat) = [] ∨ noSh (.bool r_3_4) = true) trivial))) (by kernel_rfl) (by kernel_rfl) ?_
    refine seqQ_norm ?_
    rcases itesome h with ⟨hb_2, h⟩ | ⟨hb_2, h⟩
    · refine Wp.condF (b := (!r_3_4)) (by kernel_rfl) (by kernel_rfl) (nF hb_2) ?_
      refine Wp.skipN (by kernel_rfl) ?_
      refine seqQ_norm ?_
      refine Wp.seqN (by kernel_rfl) ?_
      refine Wp.seqN (by kernel_rfl) ?_
      obtain ⟨r_5_4, hr_5_4, h⟩ := bsome h
      refine Wp.reg tiok mix hc (by kernel_rfl) (ah := none) (rs := [some (.no), some (.no), some (.no), some (.no), some (.call (.bool r_5_4) [] 1), some (.no)]) (kt := [2, 3, 21]) (ko := [1, 2]) (T' := [(2, .ra 1 0), (3, .ra 2 0), (21, .bool (!r_5_4))]) (O' := [(1, .box [.int .i64 a0.fSize, .sl (List.map I a0.fPlus), .sl (List.map I a0.fTimes), .sl (List.map AV.bool a0.fBelow)]), (2, .box [.int .i64 b1.fSize, .sl (List.map I b1.fPlus), .sl (List.map I b1.fTimes), .sl (List.map AV.bool b1.fBelow)])]) (by kernel_rfl) (And.intro (laws_eqIntS_s _ _ hr_5_4) (And.intro bod_18 (And.intro (Or.inl rfl : ([] : List Nat) = [] ∨ noSh (.bool r_5_4) = true) trivial))) (by kernel_rfl) (by kernel_rfl) ?_
      refine seqQ_norm ?_
      rcases itesome h with ⟨hb_3, h⟩ | ⟨hb_3, h⟩
      · refine Wp.condF (b := (!r_5_4)) (by kernel_rfl) (by kernel_rfl) (nF hb_3) ?_
        refine Wp.skipN (by kernel_rfl) ?_
        refine seqQ_norm ?_
        refine Wp.seqN (by kernel_rfl) ?_
        refine Wp.seqN (by kernel_rfl) ?_
        obtain ⟨r_7_4, hr_7_4, h⟩ := bsome h
        refine Wp.reg tiok mix hc (by kernel_rfl) (ah := none) (rs := [some (.no), some (.no), some (.no), some (.no), some (.call (.bool r_7_4) [] 1), some (.no)]) (kt := [27]) (ko := []) (T' := [(27, .bool (!r_7_4))]) (O' := []) (by kernel_rfl) (And.intro (laws_eqBoolS_s _ _ hr_7_4) (And.intro bod_50 (And.intro (Or.inl rfl : ([] : List Nat) = [] ∨ noSh (.bool r_7_4) = true) trivial))) (by kernel_rfl) (by kernel_rfl) ?_
        refine seqQ_norm ?_
        rcases itesome h with ⟨hb_4, h⟩ | ⟨hb_4, h⟩
        · refine Wp.condF (b := (!r_7_4)) (by kernel_rfl) (by kernel_rfl) (nF hb_4) ?_
          refine Wp.skipN (by kernel_rfl) ?_
          refine seqQ_norm ?_
          refine Wp.seqN (by kernel_rfl) ?_
          refine Wp.reg tiok mix hc (by kernel_rfl) (ah := none) (rs := [some (.no)]) (kt := [4]) (ko := []) (T' := [(4, .bool true)]) (O' := []) (by kernel_rfl) trivial (by kernel_rfl) (by kernel_rfl) ?_
          refine seqQ_norm ?_
          refine Wp.retN (by kernel_rfl) ?_
          obtain rfl := Option.some.inj h
          exact RetQ.ret (fl := [true]) (by kernel_rfl)
        · refine Wp.condT (b := (!r_7_4)) (by kernel_rfl) (by kernel_rfl) (nT hb_4) ?_
          refine Wp.seqN (by kernel_rfl) ?_
          refine Wp.reg tiok mix hc (by kernel_rfl) (ah := none) (rs := [some (.no)]) (kt := [4]) (ko := []) (T' := [(4, .bool false)]) (O' := []) (by kernel_rfl) trivial (by kernel_rfl) (by kernel_rfl) ?_
          refine seqQ_norm ?_
          refine Wp.retN (by kernel_rfl) ?_
          refine seqQ_ret ?_
          obtain rfl := Option.some.inj h
          exact RetQ.ret (fl := [true]) (by kernel_rfl)
      · refine Wp.condT (b := (!r_5_4)) (by kernel_rfl) (by kernel_rfl) (nT hb_3) ?_
        refine Wp.seqN (by kernel_rfl) ?_
        refine Wp.reg tiok mix hc (by kernel_rfl) (ah := none) (rs := [some (.no)]) (kt := [4]) (ko := []) (T' := [(4, .bool false)]) (O' := []) (by kernel_rfl) trivial (by kernel_rfl) (by kernel_rfl) ?_
        refine seqQ_norm ?_
        refine Wp.retN (by kernel_rfl) ?_
        refine seqQ_ret ?_
        obtain rfl := Option.some.inj h
        exact RetQ.ret (fl := [true]) (by kernel_rfl)
    · refine Wp.condT (b := (!r_3_4)) (by kernel_rfl) (by kernel_rfl) (nT hb_2) ?_
      refine Wp.seqN (by kernel_rfl) ?_
      refine Wp.reg tiok mix hc (by kernel_rfl) (ah := none) (rs := [some (.no)]) (kt := [4]) (ko := []) (T' := [(4, .bool false)]) (O' := []) (by kernel_rfl) trivial (by kernel_rfl) (by kernel_rfl) ?_
      refine seqQ_norm ?_
      refine Wp.retN (by kernel_rfl) ?_
      refine seqQ_ret ?_
      obtain rfl := Option.some.inj h
      exact RetQ.ret (fl := [true]) (by kernel_rfl)
def laws_eqTermS_F1 (c : Ctx) : (Unit) ⊕ (Bool) → Exit → AState → Prop
  | .inl _ => Into c (.exit 0) (mkS [] [])
  | .inr r => RetE TIx Try.f49 [] (.bool r)
end Go.Am
