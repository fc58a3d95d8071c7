/- Functions of the program as pure functions, and that it computes them. Printed by a program of mine (gen.py). -/
import Derived.Test.YtlegifoeekcolaaGRAF0
set_option linter.unusedVariables false
set_option linter.unusedSimpArgs false
set_option maxRecDepth 100000
namespace Go.Am
open Go Go.Proofs
def spec_l2Node (p : GTerm × Int × Int × Bool) : Option (Bool) :=
  match p with
  | (t0, n1, size2, closed3) =>
    (spec_l2Many t0.fOp) >>= fun r_1_5 =>
    if ((t0.fKids.length : Int) != r_1_5) = true then
      some false
    else
      ((
        if (t0.fOp == 0) = true then
          (spec_l1In (t0.fN, 0, (wr (n1 - 1)))) >>= fun r_6_4 =>
          if r_6_4 = true then
            some (.inl ())
          else
            some (.inr false)
        else
          ((
            if (t0.fOp == 1) = true then
              (spec_l1In (t0.fN, 0, 2)) >>= fun r_9_2 =>
              if r_9_2 = true then
                some (.inl ())
              else
                some (.inr false)
            else
              (spec_l2Has t0.fOp) >>= fun r_11_2 =>
              ((
                if r_11_2 = true then
                  (
                    if (decide (t0.fN ≥ size2)) = true then
                      some (true)
                    else
                      if (decide (t0.fN < (-1))) = true then
                        some (true)
                      else
                        if closed3 = true then
                          some ((decide (t0.fN < 0)))
                        else
                          some (false)
                  ) >>= fun v_7 =>
                  if v_7 = true then
                    some (.inr false)
                  else
                    some (.inl ())
                else
                  if (t0.fN != 0) = true then
                    some (.inr false)
                  else
                    some (.inl ())) : Option ((Unit) ⊕ (Bool))) >>= fun fl => match fl with
              | .inl () =>
                some (.inl ())
              | .inr r =>
                some (.inr r)) : Option ((Unit) ⊕ (Bool))) >>= fun fl => match fl with
          | .inl () =>
            some (.inl ())
          | .inr r =>
            some (.inr r)) : Option ((Unit) ⊕ (Bool))) >>= fun fl => match fl with
      | .inl () =>
        (spec_l2Typed t0.fOp) >>= fun r_14_2 =>
        if r_14_2 = true then
          (
            (spec_l2Type t0.fType) >>= fun r_16_2 =>
            if r_16_2 = true then
              (spec_l2Graded (t0.fType, size2, closed3)) >>= fun r_16_8 =>
              some (r_16_8)
            else
              some (false)
          ) >>= fun v_15 =>
          some v_15
        else
          some ((t0.fType.length : Int) == 0)
      | .inr r =>
        some r
def M_spec_l2Node (p : GTerm × Int × Int × Bool) (r : Bool) : Prop :=
  match p with
  | (t0, n1, size2, closed3) => FnSound Try.prog 122 [.agg [.int .i64 t0.fOp, .int .i64 t0.fN, .sl (List.map I t0.fType), .sl (List.map GTerm_S t0.fKids)], .int .i64 n1, .int .i64 size2, .bool closed3] (.bool r) []
theorem spec_l2Node_s : ∀ p r, spec_l2Node p = some r → M_spec_l2Node p r := by
  rintro ⟨t0, n1, size2, closed3⟩ r h
  unfold spec_l2Node at h
  show FnSound Try.prog 122 [.agg [.int .i64 t0.fOp, .int .i64 t0.fN, .sl (List.map I t0.fType), .sl (List.map GTerm_S t0.fKids)], .int .i64 n1, .int .i64 size2, .bool closed3] (.bool r) []
  refine FnSound.body0 tiok (fn := Try.f122) (code := B122) (by kernel_rfl) (by kernel_rfl) (by kernel_rfl) (by kernel_rfl) (nt := 76) (by kernel_rfl) (by kernel_rfl) (T := [(0, .agg [.int .i64 t0.fOp, .int .i64 t0.fN, .sl (List.map I t0.fType), .sl (List.map GTerm_S t0.fKids)]), (1, .int .i64 n1), (2, .int .i64 size2), (3, .bool closed3)]) (O := []) (by kernel_rfl) (by kernel_rfl) (fun c hc => ?_)
  refine Wp.seqN (by kernel_rfl) ?_
  refine Wp.reg tiok mix hc (by kernel_rfl) (ah := none) (rs := [some (.new 1), some (.no)]) (kt := [1, 2, 3, 4]) (ko := [1]) (T' := [(1, .int .i64 n1), (2, .int .i64 size2), (3, .bool closed3), (4, .ra 1 0)]) (O' := [(1, .box [.int .i64 t0.fOp, .int .i64 t0.fN, .sl (List.map I t0.fType), .sl (List.map GTerm_S t0.fKids)])]) (by kernel_rfl) trivial (by kernel_rfl) (by kernel_rfl) ?_
  refine seqQ_norm ?_
  refine Wp.seqN (by kernel_rfl) ?_
  refine Wp.seqN (by kernel_rfl) ?_
  obtain ⟨r_1_5, hr_1_5, h⟩ := bsome h
  refine Wp.reg tiok mix hc (by kernel_rfl) (ah := (some [[], [0], [0, 1], [], [3], [3, 4], [0, 1, 2, 3, 4, 5]])) (rs := [some (.no), some (.no), some (.eqv (.no) ⟨[(11, .int .i64 (t0.fKids.length : Int))], [], []⟩), some (.no), some (.no), some (.call (.int .i64 r_1_5) [] 1), some (.no)]) (kt := [1, 2, 3, 4, 15]) (ko := [1]) (T' := [(1, .int .i64 n1), (2, .int .i64 size2), (3, .bool closed3), (4, .ra 1 0), (15, .bool ((t0.fKids.length : Int) != r_1_5))]) (O' := [(1, .box [.int .i64 t0.fOp, .int .i64 t0.fN, .sl (List.map I t0.fType), .sl (List.map GTerm_S t0.fKids)])]) (by kernel_rfl) (And.intro (lenT (d := 11) GTerm_S t0.fKids) (And.intro (spec_l2Many_s _ _ hr_1_5) (And.intro bod_133 (And.intro (Or.inl rfl : ([] : List Nat) = [] ∨ noSh (.int .i64 r_1_5) = true) trivial)))) (by kernel_rfl) (by kernel_rfl) ?_
  refine seqQ_norm ?_
  rcases itesome h with ⟨hb_1, h⟩ | ⟨hb_1, h⟩
  · refine Wp.condT (b := ((t0.fKids.length : Int) != r_1_5)) (by kernel_rfl) (by kernel_rfl) hb_1 ?_
    refine Wp.seqN (by kernel_rfl) ?_
    refine Wp.reg tiok mix hc (by kernel_rfl) (ah := none) (rs := [some (.no)]) (kt := [8]) (ko := []) (T' := [(8, .bool false)]) (O' := []) (by kernel_rfl) trivial (by kernel_rfl) (by kernel_rfl) ?_
    refine seqQ_norm ?_
    refine Wp.retN (by kernel_rfl) ?_
    refine seqQ_ret ?_
    obtain rfl := Option.some.inj h
    exact RetQ.ret (fl := [true]) (by kernel_rfl)
  · refine Wp.condF (b := ((t0.fKids.length : Int) != r_1_5)) (by kernel_rfl) (by kernel_rfl) hb_1 ?_
    refine Wp.skipN (by kernel_rfl) ?_
    refine seqQ_norm ?_
    refine Wp.seqN (by kernel_rfl) ?_
    refine Wp.blockN (i := 0) (by kernel_rfl) ?_
    refine Wp.seqN (by kernel_rfl) ?_
    refine Wp.reg tiok mix hc (by kernel_rfl) (ah := none) (rs := [some (.no), some (.no), some (.no), some (.no)]) (kt := [1, 2, 3, 4, 19]) (ko := [1]) (T' := [(1, .int .i64 n1), (2, .int .i64 size2), (3, .bool closed3), (4, .ra 1 0), (19, .bool (t0.fOp == 0))]) (O' := [(1, .box [.int .i64 t0.fOp, .int .i64 t0.fN, .sl (List.map I t0.fType), .sl (List.map GTerm_S t0.fKids)])]) (by kernel_rfl) trivial (by kernel_rfl) (by kernel_rfl) ?_
    refine seqQ_norm ?_
    obtain ⟨fl, hj_13, h⟩ := bsome h
    have hF : Wp Try.prog c (cr (cl (cl (cr (cr B122))))) (spec_l2Node_F3 c t0 size2 closed3 fl) (mkS [(1, .int .i64 n1), (2, .int .i64 size2), (3, .bool closed3), (4, .ra 1 0), (19, .bool (t0.fOp == 0))] [(1, .box [.int .i64 t0.fOp, .int .i64 t0.fN, .sl (List.map I t0.fType), .sl (List.map GTerm_S t0.fKids)])]) := by
      replace h := hj_13
      rcases itesome h with ⟨hb_2, h⟩ | ⟨hb_2, h⟩
      · refine Wp.condT (b := (t0.fOp == 0)) (by kernel_rfl) (by kernel_rfl) hb_2 ?_
        refine Wp.seqN (by kernel_rfl) ?_
        obtain ⟨r_6_4, hr_6_4, h⟩ := bsome h
        refine Wp.reg tiok mix hc (by kernel_rfl) (ah := none) (rs := [some (.no), some (.no), some (.no), some (.no), some (.call (.bool r_6_4) [] 1), some (.no)]) (kt := [2, 3, 4, 28]) (ko := [1]) (T' := [(2, .int .i64 size2), (3, .bool closed3), (4, .ra 1 0), (28, .bool (!r_6_4))]) (O' := [(1, .box [.int .i64 t0.fOp, .int .i64 t0.fN, .sl (List.map I t0.fType), .sl (List.map GTerm_S t0.fKids)])]) (by kernel_rfl) (And.intro (spec_l1In_s _ _ hr_6_4) (And.intro bod_70 (And.intro (Or.inl rfl : ([] : List Nat) = [] ∨ noSh (.bool r_6_4) = true) trivial))) (by kernel_rfl) (by kernel_rfl) ?_
        refine seqQ_norm ?_
        rcases itesome h with ⟨hb_3, h⟩ | ⟨hb_3, h⟩
        · refine Wp.condF (b := (!r_6_4)) (by kernel_rfl) (by kernel_rfl) (nF hb_3) ?_
          refine Wp.skipN (by kernel_rfl) ?_
          obtain rfl := Option.some.inj h
          exact Into.view (fun a w hv => SRx.renL [] hv (by kernel_rfl) (by kernel_rfl) (by kernel_rfl))
        · refine Wp.condT (b := (!r_6_4)) (by kernel_rfl) (by kernel_rfl) (nT hb_3) ?_
          refine Wp.seqN (by kernel_rfl) ?_
          refine Wp.reg tiok mix hc (by kernel_rfl) (ah := none) (rs := [some (.no)]) (kt := [8]) (ko := []) (T' := [(8, .bool false)]) (O' := []) (by kernel_rfl) trivial (by kernel_rfl) (by kernel_rfl) ?_
          refine seqQ_norm ?_
          refine Wp.retN (by kernel_rfl) ?_
          obtain rfl := Option.some.inj h
          exact RetE.ret (fl := [true]) (by kernel_rfl)
      · refine Wp.condF (b := (t0.fOp == 0)) (by kernel_rfl) (by kernel_rfl) hb_2 ?_
        refine Wp.seqN (by kernel_rfl) ?_
        refine Wp.reg tiok mix hc (by kernel_rfl) (ah := none) (rs := [some (.no), some (.no), some (.no), some (.no)]) (kt := [2, 3, 4, 29]) (ko := [1]) (T' := [(2, .int .i64 size2), (3, .bool closed3), (4, .ra 1 0), (29, .bool (t0.fOp == 1))]) (O' := [(1, .box [.int .i64 t0.fOp, .int .i64 t0.fN, .sl (List.map I t0.fType), .sl (List.map GTerm_S t0.fKids)])]) (by kernel_rfl) trivial (by kernel_rfl) (by kernel_rfl) ?_
        refine seqQ_norm ?_
        obtain ⟨fl, hj_12, h⟩ := bsome h
        have hF : Wp Try.prog c (cr (cr (cr (cl (cl (cr (cr B122))))))) (spec_l2Node_F2 c t0 size2 closed3 fl) (mkS [(2, .int .i64 size2), (3, .bool closed3), (4, .ra 1 0), (29, .bool (t0.fOp == 1))] [(1, .box [.int .i64 t0.fOp, .int .i64 t0.fN, .sl (List.map I t0.fType), .sl (List.map GTerm_S t0.fKids)])]) := by
          replace h := hj_12
          rcases itesome h with ⟨hb_4, h⟩ | ⟨hb_4, h⟩
          · refine Wp.condT (b := (t0.fOp == 1)) (by kernel_rfl) (by kernel_rfl) hb_4 ?_
            refine Wp.seqN (by kernel_rfl) ?_
            obtain ⟨r_9_2, hr_9_2, h⟩ := bsome h
            refine Wp.reg tiok mix hc (by kernel_rfl) (ah := none) (rs := [some (.no), some (.no), some (.call (.bool r_9_2) [] 1), some (.no)]) (kt := [2, 3, 4, 36]) (ko := [1]) (T' := [(2, .int .i64 size2), (3, .bool closed3), (4, .ra 1 0), (36, .bool (!r_9_2))]) (O' := [(1, .box [.int .i64 t0.fOp, .int .i64 t0.fN, .sl (List.map I t0.fType), .sl (List.map GTerm_S t0.fKids)])]) (by kernel_rfl) (And.intro (spec_l1In_s _ _ hr_9_2) (And.intro bod_70 (And.intro (Or.inl rfl : ([] : List Nat) = [] ∨ noSh (.bool r_9_2) = true) trivial))) (by kernel_rfl) (by kernel_rfl) ?_
            refine seqQ_norm ?_
            rcases itesome h with ⟨hb_5, h⟩ | ⟨hb_5, h⟩
            · refine Wp.condF (b := (!r_9_2)) (by kernel_rfl) (by kernel_rfl) (nF hb_5) ?_
              refine Wp.skipN (by kernel_rfl) ?_
              obtain rfl := Option.some.inj h
              exact Into.view (fun a w hv => SRx.renL [] hv (by kernel_rfl) (by kernel_rfl) (by kernel_rfl))
            · refine Wp.condT (b := (!r_9_2)) (by kernel_rfl) (by kernel_rfl) (nT hb_5) ?_
              refine Wp.seqN (by kernel_rfl) ?_
              refine Wp.reg tiok mix hc (by kernel_rfl) (ah := none) (rs := [some (.no)]) (kt := [8]) (ko := []) (T' := [(8, .bool false)]) (O' := []) (by kernel_rfl) trivial (by kernel_rfl) (by kernel_rfl) ?_
              refine seqQ_norm ?_
              refine Wp.retN (by kernel_rfl) ?_
              obtain rfl := Option.some.inj h
              exact RetE.ret (fl := [true]) (by kernel_rfl)
          · refine Wp.condF (b := (t0.fOp == 1)) (by kernel_rfl) (by kernel_rfl) hb_4 ?_
            refine Wp.seqN (by kernel_rfl) ?_
            obtain ⟨r_11_2, hr_11_2, h⟩ := bsome h
            refine Wp.reg tiok mix hc (by kernel_rfl) (ah := none) (rs := [some (.no), some (.no), some (.call (.bool r_11_2) [] 1), some (.no)]) (kt := [2, 3, 4, 37]) (ko := [1]) (T' := [(2, .int .i64 size2), (3, .bool closed3), (4, .ra 1 0), (37, .bool r_11_2)]) (O' := [(1, .box [.int .i64 t0.fOp, .int .i64 t0.fN, .sl (List.map I t0.fType), .sl (List.map GTerm_S t0.fKids)])]) (by kernel_rfl) (And.intro (spec_l2Has_s _ _ hr_11_2) (And.intro bod_98 (And.intro (Or.inl rfl : ([] : List Nat) = [] ∨ noSh (.bool r_11_2) = true) trivial))) (by kernel_rfl) (by kernel_rfl) ?_
            refine seqQ_norm ?_
            obtain ⟨fl, hj_11, h⟩ := bsome h
            have hF : Wp Try.prog c (cr (cr (cr (cr (cr (cl (cl (cr (cr B122))))))))) (spec_l2Node_F1 c t0 size2 closed3 fl) (mkS [(2, .int .i64 size2), (3, .bool closed3), (4, .ra 1 0), (37, .bool r_11_2)] [(1, .box [.int .i64 t0.fOp, .int .i64 t0.fN, .sl (List.map I t0.fType), .sl (List.map GTerm_S t0.fKids)])]) := by
              replace h := hj_11
              rcases itesome h with ⟨hb_6, h⟩ | ⟨hb_6, h⟩
              · refine Wp.condT (b := r_11_2) (by kernel_rfl) (by kernel_rfl) hb_6 ?_
                refine Wp.seqN (by kernel_rfl) ?_
                obtain ⟨v_7, hj_8, h⟩ := bsome h
                refine Wp.into (x := .normal) (mkS [(2, .int .i64 size2), (3, .bool closed3), (4, .ra 1 0), (57, .bool v_7)] [(1, .box [.int .i64 t0.fOp, .int .i64 t0.fN, .sl (List.map I t0.fType), .sl (List.map GTerm_S t0.fKids)])]) ?_ ?_
                · replace h := hj_8
                  rcases itesome h with ⟨hb_12_0, h⟩ | ⟨hb_12_0, h⟩
                  · refine Wp.reg tiok mix hc (by kernel_rfl) (ah := none) (rs := [some (.no), some (.no), some (.no), some (.no), some (.no), none, none, none, some (.cond true), some (.no), none, none, none, none, none, none, some (.cond true)]) (kt := [2, 3, 4, 57]) (ko := [1]) (T' := [(2, .int .i64 size2), (3, .bool closed3), (4, .ra 1 0), (57, .bool true)]) (O' := [(1, .box [.int .i64 t0.fOp, .int .i64 t0.fN, .sl (List.map I t0.fType), .sl (List.map GTerm_S t0.fKids)])]) (by kernel_rfl) (And.intro (neF hb_12_0 : (decide (t0.fN ≥ size2)) ≠ false) (And.intro (neF hb_12_0 : (decide (t0.fN ≥ size2)) ≠ false) (And.intro (neF hb_12_0 : (decide (t0.fN ≥ size2)) ≠ false) (And.intro hb_12_0 (And.intro (neF (rfl : true = true) : true ≠ false) (And.intro (neF (rfl : true = true) : true ≠ false) (And.intro (neF (rfl : true = true) : true ≠ false) (And.intro (rfl : true = true) trivial)))))))) (by kernel_rfl) (by kernel_rfl) ?_
                    obtain rfl := Option.some.inj h
                    exact Into.mk
                  · rcases itesome h with ⟨hb_12_1, h⟩ | ⟨hb_12_1, h⟩
                    · refine Wp.reg tiok mix hc (by kernel_rfl) (ah := none) (rs := [some (.no), some (.no), some (.no), some (.no), some (.no), some (.no), some (.no), some (.no), some (.cond false), some (.no), none, none, none, none, none, none, some (.cond true)]) (kt := [2, 3, 4, 57]) (ko := [1]) (T' := [(2, .int .i64 size2), (3, .bool closed3), (4, .ra 1 0), (57, .bool true)]) (O' := [(1, .box [.int .i64 t0.fOp, .int .i64 t0.fN, .sl (List.map I t0.fType), .sl (List.map GTerm_S t0.fKids)])]) (by kernel_rfl) (And.intro hb_12_0 (And.intro hb_12_0 (And.intro hb_12_0 (And.intro hb_12_0 (And.intro (neF hb_12_1 : (decide (t0.fN < (-1))) ≠ false) (And.intro (neF hb_12_1 : (decide (t0.fN < (-1))) ≠ false) (And.intro (neF hb_12_1 : (decide (t0.fN < (-1))) ≠ false) (And.intro hb_12_1 trivial)))))))) (by kernel_rfl) (by kernel_rfl) ?_
                      obtain rfl := Option.some.inj h
                      exact Into.mk
                    · rcases itesome h with ⟨hb_12_2, h⟩ | ⟨hb_12_2, h⟩
                      · refine Wp.reg tiok mix hc (by kernel_rfl) (ah := none) (rs := [some (.no), some (.no), some (.no), some (.no), some (.no), some (.no), some (.no), some (.no), some (.cond false), some (.no), some (.no), some (.no), some (.no), some (.no), some (.no), some (.cond true), some (.cond false)]) (kt := [2, 3, 4, 57]) (ko := [1]) (T' := [(2, .int .i64 size2), (3, .bool closed3), (4, .ra 1 0), (57, .bool (decide (t0.fN < 0)))]) (O' := [(1, .box [.int .i64 t0.fOp, .int .i64 t0.fN, .sl (List.map I t0.fType), .sl (List.map GTerm_S t0.fKids)])]) (by kernel_rfl) (And.intro hb_12_0 (And.intro hb_12_0 (And.intro hb_12_0 (And.intro hb_12_0 (And.intro hb_12_1 (And.intro hb_12_1 (And.intro hb_12_2 (And.intro hb_12_2 (And.intro hb_12_2 (And.intro hb_12_1 (And.intro hb_12_2 (And.intro hb_12_1 trivial)))))))))))) (by kernel_rfl) (by kernel_rfl) ?_
                        obtain rfl := Option.some.inj h
                        exact Into.mk
                      · refine Wp.reg tiok mix hc (by kernel_rfl) (ah := none) (rs := [some (.no), some (.no), some (.no), some (.no), some (.no), some (.no), some (.no), some (.no), some (.cond false), some (.no), some (.no), some (.no), none, none, none, some (.cond false), some (.cond false)]) (kt := [2, 3, 4, 57]) (ko := [1]) (T' := [(2, .int .i64 size2), (3, .bool closed3), (4, .ra 1 0), (57, .bool false)]) (O' := [(1, .box [.int .i64 t0.fOp, .int .i64 t0.fN, .sl (List.map I t0.fType), .sl (List.map GTerm_S t0.fKids)])]) (by kernel_rfl) (And.intro hb_12_0 (And.intro hb_12_0 (And.intro hb_12_0 (And.intro hb_12_0 (And.intro hb_12_1 (And.intro hb_12_1 (And.intro (neT hb_12_2 : closed3 ≠ true) (And.intro (neT hb_12_2 : closed3 ≠ true) (And.intro (neT hb_12_2 : closed3 ≠ true) (And.intro hb_12_1 (And.intro hb_12_2 (And.intro hb_12_1 trivial)))))))))))) (by kernel_rfl) (by kernel_rfl) ?_
                        obtain rfl := Option.some.inj h
                        exact Into.mk
                · clear hj_8
                  refine seqQ_norm ?_
                  rcases itesome h with ⟨hb_9, h⟩ | ⟨hb_9, h⟩
                  · refine Wp.condT (b := v_7) (by kernel_rfl) (by kernel_rfl) hb_9 ?_
                    refine Wp.seqN (by kernel_rfl) ?_
                    refine Wp.reg tiok mix hc (by kernel_rfl) (ah := none) (rs := [some (.no)]) (kt := [8]) (ko := []) (T' := [(8, .bool false)]) (O' := []) (by kernel_rfl) trivial (by kernel_rfl) (by kernel_rfl) ?_
                    refine seqQ_norm ?_
                    refine Wp.retN (by kernel_rfl) ?_
                    obtain rfl := Option.some.inj h
                    exact RetE.ret (fl := [true]) (by kernel_rfl)
                  · refine Wp.condF (b := v_7) (by kernel_rfl) (by kernel_rfl) hb_9 ?_
                    refine Wp.skipN (by kernel_rfl) ?_
                    obtain rfl := Option.some.inj h
                    exact Into.view (fun a w hv => SRx.renL [] hv (by kernel_rfl) (by kernel_rfl) (by kernel_rfl))
              · refine Wp.condF (b := r_11_2) (by kernel_rfl) (by kernel_rfl) hb_6 ?_
                refine Wp.seqN (by kernel_rfl) ?_
                refine Wp.reg tiok mix hc (by kernel_rfl) (ah := none) (rs := [some (.no), some (.no), some (.no)]) (kt := [2, 3, 4, 18]) (ko := [1]) (T' := [(2, .int .i64 size2), (3, .bool closed3), (4, .ra 1 0), (18, .bool (t0.fN != 0))]) (O' := [(1, .box [.int .i64 t0.fOp, .int .i64 t0.fN, .sl (List.map I t0.fType), .sl (List.map GTerm_S t0.fKids)])]) (by kernel_rfl) trivial (by kernel_rfl) (by kernel_rfl) ?_
                refine seqQ_norm ?_
                rcases itesome h with ⟨hb_10, h⟩ | ⟨hb_10, h⟩
                · refine Wp.condT (b := (t0.fN != 0)) (by kernel_rfl) (by kernel_rfl) hb_10 ?_
                  refine Wp.seqN (by kernel_rfl) ?_
                  refine Wp.reg tiok mix hc (by kernel_rfl) (ah := none) (rs := [some (.no)]) (kt := [8]) (ko := []) (T' := [(8, .bool false)]) (O' := []) (by kernel_rfl) trivial (by kernel_rfl) (by kernel_rfl) ?_
                  refine seqQ_norm ?_
                  refine Wp.retN (by kernel_rfl) ?_
                  obtain rfl := Option.some.inj h
                  exact RetE.ret (fl := [true]) (by kernel_rfl)
                · refine Wp.condF (b := (t0.fN != 0)) (by kernel_rfl) (by kernel_rfl) hb_10 ?_
                  refine Wp.skipN (by kernel_rfl) ?_
                  obtain rfl := Option.some.inj h
                  exact Into.view (fun a w hv => SRx.renL [] hv (by kernel_rfl) (by kernel_rfl) (by kernel_rfl))
            rcases fl with ⟨⟩ | r
            · refine Wp.into (x := .normal) (mkS [(2, .int .i64 size2), (3, .bool closed3), (4, .ra 1 0)] [(1, .box [.int .i64 t0.fOp, .int .i64 t0.fN, .sl (List.map I t0.fType), .sl (List.map GTerm_S t0.fKids)])]) hF ?_
              obtain rfl := Option.some.inj h
              exact Into.mk
            · refine Wp.mono hF ?_
              rintro _ _ ⟨rfl, hfin⟩
              obtain rfl := Option.some.inj h
              exact ⟨rfl, hfin⟩
        rcases fl with ⟨⟩ | r
        · refine Wp.into (x := .normal) (mkS [(2, .int .i64 size2), (3, .bool closed3), (4, .ra 1 0)] [(1, .box [.int .i64 t0.fOp, .int .i64 t0.fN, .sl (List.map I t0.fType), .sl (List.map GTerm_S t0.fKids)])]) hF ?_
          obtain rfl := Option.some.inj h
          exact Into.mk
        · refine Wp.mono hF ?_
          rintro _ _ ⟨rfl, hfin⟩
          obtain rfl := Option.some.inj h
          exact ⟨rfl, hfin⟩
    rcases fl with ⟨⟩ | r
    · refine Wp.into (x := .normal) (mkS [(2, .int .i64 size2), (3, .bool closed3), (4, .ra 1 0)] [(1, .box [.int .i64 t0.fOp, .int .i64 t0.fN, .sl (List.map I t0.fType), .sl (List.map GTerm_S t0.fKids)])]) hF ?_
      refine blockQ_norm ?_
      refine seqQ_norm ?_
      refine Wp.seqN (by kernel_rfl) ?_
      refine Wp.seqN (by kernel_rfl) ?_
      obtain ⟨r_14_2, hr_14_2, h⟩ := bsome h
      refine Wp.reg tiok mix hc (by kernel_rfl) (ah := none) (rs := [some (.no), some (.no), some (.call (.bool r_14_2) [] 1), some (.no)]) (kt := [2, 3, 4, 61]) (ko := [1]) (T' := [(2, .int .i64 size2), (3, .bool closed3), (4, .ra 1 0), (61, .bool (!r_14_2))]) (O' := [(1, .box [.int .i64 t0.fOp, .int .i64 t0.fN, .sl (List.map I t0.fType), .sl (List.map GTerm_S t0.fKids)])]) (by kernel_rfl) (And.intro (spec_l2Typed_s _ _ hr_14_2) (And.intro bod_134 (And.intro (Or.inl rfl : ([] : List Nat) = [] ∨ noSh (.bool r_14_2) = true) trivial))) (by kernel_rfl) (by kernel_rfl) ?_
      refine seqQ_norm ?_
      rcases itesome h with ⟨hb_14, h⟩ | ⟨hb_14, h⟩
      · refine Wp.condF (b := (!r_14_2)) (by kernel_rfl) (by kernel_rfl) (nF hb_14) ?_
        refine Wp.skipN (by kernel_rfl) ?_
        refine seqQ_norm ?_
        refine Wp.seqN (by kernel_rfl) ?_
        obtain ⟨v_15, hj_16, h⟩ := bsome h
        refine Wp.into (x := .normal) (mkS [(8, .bool v_15)] []) ?_ ?_
        · replace h := hj_16
          obtain ⟨r_16_2, hr_16_2, h⟩ := bsome h
          rcases itesome h with ⟨hb_16_0, h⟩ | ⟨hb_16_0, h⟩
          · obtain ⟨r_16_8, hr_16_8, h⟩ := bsome h
            refine Wp.reg tiok mix hc (by kernel_rfl) (ah := none) (rs := [some (.no), some (.no), some (.call (.bool r_16_2) [] 1), some (.no), some (.no), some (.no), some (.no), some (.no), some (.call (.bool r_16_8) [] 1), some (.cond true), some (.no)]) (kt := [8]) (ko := []) (T' := [(8, .bool r_16_8)]) (O' := []) (by kernel_rfl) (And.intro (spec_l2Type_s _ _ hr_16_2) (And.intro bod_125 (And.intro (Or.inl rfl : ([] : List Nat) = [] ∨ noSh (.bool r_16_2) = true) (And.intro hb_16_0 (And.intro hb_16_0 (And.intro hb_16_0 (And.intro hb_16_0 (And.intro hb_16_0 (And.intro (spec_l2Graded_s _ _ hr_16_8) (And.intro bod_126 (And.intro (Or.inl rfl : ([] : List Nat) = [] ∨ noSh (.bool r_16_8) = true) (And.intro hb_16_0 trivial)))))))))))) (by kernel_rfl) (by kernel_rfl) ?_
            obtain rfl := Option.some.inj h
            exact Into.mk
          · refine Wp.reg tiok mix hc (by kernel_rfl) (ah := none) (rs := [some (.no), some (.no), some (.call (.bool r_16_2) [] 1), some (.no), none, none, none, none, none, some (.cond false), some (.no)]) (kt := [8]) (ko := []) (T' := [(8, .bool false)]) (O' := []) (by kernel_rfl) (And.intro (spec_l2Type_s _ _ hr_16_2) (And.intro bod_125 (And.intro (Or.inl rfl : ([] : List Nat) = [] ∨ noSh (.bool r_16_2) = true) (And.intro (neT hb_16_0 : r_16_2 ≠ true) (And.intro (neT hb_16_0 : r_16_2 ≠ true) (And.intro (neT hb_16_0 : r_16_2 ≠ true) (And.intro (neT hb_16_0 : r_16_2 ≠ true) (And.intro (neT hb_16_0 : r_16_2 ≠ true) (And.intro hb_16_0 trivial))))))))) (by kernel_rfl) (by kernel_rfl) ?_
            obtain rfl := Option.some.inj h
            exact Into.mk
        · clear hj_16
          refine seqQ_norm ?_
          refine Wp.retN (by kernel_rfl) ?_
          obtain rfl := Option.some.inj h
          exact RetQ.ret (fl := [true]) (by kernel_rfl)
      · refine Wp.condT (b := (!r_14_2)) (by kernel_rfl) (by kernel_rfl) (nT hb_14) ?_
        refine Wp.seqN (by kernel_rfl) ?_
        refine Wp.reg tiok mix hc (by kernel_rfl) (ah := none) (rs := [some (.no), some (.no), some (.eqv (.no) ⟨[(64, .int .i64 (t0.fType.length : Int))], [], []⟩), some (.no), some (.no)]) (kt := [8]) (ko := []) (T' := [(8, .bool ((t0.fType.length : Int) == 0))]) (O' := []) (by kernel_rfl) (And.intro (lenT (d := 64) I t0.fType) trivial) (by kernel_rfl) (by kernel_rfl) ?_
        refine seqQ_norm ?_
        refine Wp.retN (by kernel_rfl) ?_
        refine seqQ_ret ?_
        obtain rfl := Option.some.inj h
        exact RetQ.ret (fl := [true]) (by kernel_rfl)
    · refine Wp.mono hF ?_
      rintro _ _ ⟨rfl, hfin⟩
      refine blockQ_ret ?_
      refine seqQ_ret ?_
      obtain rfl := Option.some.inj h
      exact ⟨.inl rfl, hfin⟩
def spec_l2Adds (p : Int × Int) : Option (Int) :=
  match p with
  | (op0, kid1) =>
    (
      if (op0 == 5) = true then
        some ((kid1 == 1))
      else
        some (false)
    ) >>= fun v_1 =>
    if v_1 = true then
      some 2
    else
      (
        if (op0 == 8) = true then
          if (decide (kid1 > 0)) = true then
            some (true)
          else
            if (op0 == 9) = true then
              some (true)
            else
              if (op0 == 12) = true then
                some ((kid1 == 1))
              else
                some (false)
        else
          if (op0 == 9) = true then
            some (true)
          else
            if (op0 == 12) = true then
              some ((kid1 == 1))
            else
              some (false)
      ) >>= fun v_4 =>
      if v_4 = true then
        some 1
      else
        some 0
def M_spec_l2Adds (p : Int × Int) (r : Int) : Prop :=
  match p with
  | (op0, kid1) => FnSound Try.prog 113 [.int .i64 op0, .int .i64 kid1] (.int .i64 r) []
theorem spec_l2Adds_s : ∀ p r, spec_l2Adds p = some r → M_spec_l2Adds p r := by
  rintro ⟨op0, kid1⟩ r h
  unfold spec_l2Adds at h
  show FnSound Try.prog 113 [.int .i64 op0, .int .i64 kid1] (.int .i64 r) []
  refine FnSound.body0 tiok (fn := Try.f113) (code := B113) (by kernel_rfl) (by kernel_rfl) (by kernel_rfl) (by kernel_rfl) (nt := 31) (by kernel_rfl) (by kernel_rfl) (T := [(0, .int .i64 op0), (1, .int .i64 kid1)]) (O := []) (by kernel_rfl) (by kernel_rfl) (fun c hc => ?_)
  refine Wp.seqN (by kernel_rfl) ?_
  refine Wp.reg tiok mix hc (by kernel_rfl) (ah := none) (rs := [some (.no)]) (kt := [0, 1]) (ko := []) (T' := [(0, .int .i64 op0), (1, .int .i64 kid1)]) (O' := []) (by kernel_rfl) trivial (by kernel_rfl) (by kernel_rfl) ?_
  refine seqQ_norm ?_
  refine Wp.seqN (by kernel_rfl) ?_
  refine Wp.blockN (i := 0) (by kernel_rfl) ?_
  refine Wp.seqN (by kernel_rfl) ?_
  obtain ⟨v_1, hj_2, h⟩ := bsome h
  refine Wp.into (x := .normal) (mkS [(0, .int .i64 op0), (1, .int .i64 kid1), (5, .bool v_1)] []) ?_ ?_
  · replace h := hj_2
    rcases itesome h with ⟨hb_1_0, h⟩ | ⟨hb_1_0, h⟩
    · refine Wp.reg tiok mix hc (by kernel_rfl) (ah := none) (rs := [some (.no), some (.no), some (.no), some (.no), some (.no), some (.cond true), some (.no)]) (kt := [0, 1, 5]) (ko := []) (T' := [(0, .int .i64 op0), (1, .int .i64 kid1), (5, .bool (kid1 == 1))]) (O' := []) (by kernel_rfl) (And.intro hb_1_0 (And.intro hb_1_0 (And.intro hb_1_0 trivial))) (by kernel_rfl) (by kernel_rfl) ?_
      obtain rfl := Option.some.inj h
      exact Into.mk
    · refine Wp.reg tiok mix hc (by kernel_rfl) (ah := none) (rs := [some (.no), some (.no), some (.no), none, none, some (.cond false), some (.no)]) (kt := [0, 1, 5]) (ko := []) (T' := [(0, .int .i64 op0), (1, .int .i64 kid1), (5, .bool false)]) (O' := []) (by kernel_rfl) (And.intro (neT hb_1_0 : (op0 == 5) ≠ true) (And.intro (neT hb_1_0 : (op0 == 5) ≠ true) (And.intro hb_1_0 trivial))) (by kernel_rfl) (by kernel_rfl) ?_
      obtain rfl := Option.some.inj h
      exact Into.mk
  · clear hj_2
    refine seqQ_norm ?_
    rcases itesome h with ⟨hb_3, h⟩ | ⟨hb_3, h⟩
    · refine Wp.condT (b := v_1) (by kernel_rfl) (by kernel_rfl) hb_3 ?_
      refine Wp.seqN (by kernel_rfl) ?_
      refine Wp.reg tiok mix hc (by kernel_rfl) (ah := none) (rs := [some (.no)]) (kt := [4]) (ko := []) (T' := [(4, .int .i64 2)]) (O' := []) (by kernel_rfl) trivial (by kernel_rfl) (by kernel_rfl) ?_
      refine seqQ_norm ?_
      refine Wp.retN (by kernel_rfl) ?_
      refine blockQ_ret ?_
      refine seqQ_ret ?_
      obtain rfl := Option.some.inj h
      exact RetQ.ret (fl := [true]) (by kernel_rfl)
    · refine Wp.condF (b := v_1) (by kernel_rfl) (by kernel_rfl) hb_3 ?_
      refine Wp.seqN (by kernel_rfl) ?_
      obtain ⟨v_4, hj_5, h⟩ := bsome h
      refine Wp.into (x := .normal) (mkS [(12, .bool v_4)] []) ?_ ?_
      · replace h := hj_5
        rcases itesome h with ⟨hb_3_0, h⟩ | ⟨hb_3_0, h⟩
        · rcases itesome h with ⟨hb_3_1, h⟩ | ⟨hb_3_1, h⟩
          · refine Wp.reg tiok mix hc (by kernel_rfl) (ah := none) (rs := [some (.no), some (.no), some (.no), some (.no), some (.no), some (.cond true), some (.no), none, none, some (.cond true), some (.no), none, none, none, none, none, none, some (.cond true), some (.no)]) (kt := [12]) (ko := []) (T' := [(12, .bool true)]) (O' := []) (by kernel_rfl) (And.intro hb_3_0 (And.intro hb_3_0 (And.intro hb_3_0 (And.intro (neF hb_3_1 : (decide (kid1 > 0)) ≠ false) (And.intro (neF hb_3_1 : (decide (kid1 > 0)) ≠ false) (And.intro hb_3_1 (And.intro (neF (rfl : true = true) : true ≠ false) (And.intro (neF (rfl : true = true) : true ≠ false) (And.intro (neF (rfl : true = true) : true ≠ false) (And.intro (neF (rfl : true = true) : true ≠ false) (And.intro (rfl : true = true) trivial))))))))))) (by kernel_rfl) (by kernel_rfl) ?_
            obtain rfl := Option.some.inj h
            exact Into.mk
          · rcases itesome h with ⟨hb_3_2, h⟩ | ⟨hb_3_2, h⟩
            · refine Wp.reg tiok mix hc (by kernel_rfl) (ah := none) (rs := [some (.no), some (.no), some (.no), some (.no), some (.no), some (.cond true), some (.no), some (.no), some (.no), some (.cond false), some (.no), none, none, none, none, none, none, some (.cond true), some (.no)]) (kt := [12]) (ko := []) (T' := [(12, .bool true)]) (O' := []) (by kernel_rfl) (And.intro hb_3_0 (And.intro hb_3_0 (And.intro hb_3_0 (And.intro hb_3_1 (And.intro hb_3_1 (And.intro hb_3_1 (And.intro (neF hb_3_2 : (op0 == 9) ≠ false) (And.intro (neF hb_3_2 : (op0 == 9) ≠ false) (And.intro (neF hb_3_2 : (op0 == 9) ≠ false) (And.intro (neF hb_3_2 : (op0 == 9) ≠ false) (And.intro hb_3_2 trivial))))))))))) (by kernel_rfl) (by kernel_rfl) ?_
              obtain rfl := Option.some.inj h
              exact Into.mk
            · rcases itesome h with ⟨hb_3_3, h⟩ | ⟨hb_3_3, h⟩
              · refine Wp.reg tiok mix hc (by kernel_rfl) (ah := none) (rs := [some (.no), some (.no), some (.no), some (.no), some (.no), some (.cond true), some (.no), some (.no), some (.no), some (.cond false), some (.no), some (.no), some (.no), some (.no), some (.no), some (.no), some (.cond true), some (.cond false), some (.no)]) (kt := [12]) (ko := []) (T' := [(12, .bool (kid1 == 1))]) (O' := []) (by kernel_rfl) (And.intro hb_3_0 (And.intro hb_3_0 (And.intro hb_3_0 (And.intro hb_3_1 (And.intro hb_3_1 (And.intro hb_3_1 (And.intro hb_3_2 (And.intro hb_3_2 (And.intro hb_3_2 (And.intro hb_3_3 (And.intro hb_3_3 (And.intro hb_3_2 (And.intro hb_3_3 (And.intro hb_3_2 trivial)))))))))))))) (by kernel_rfl) (by kernel_rfl) ?_
                obtain rfl := Option.some.inj h
                exact Into.mk
              · refine Wp.reg tiok mix hc (by kernel_rfl) (ah := none) (rs := [some (.no), some (.no), some (.no), some (.no), some (.no), some (.cond true), some (.no), some (.no), some (.no), some (.cond false), some (.no), some (.no), some (.no), some (.no), none, none, some (.cond false), some (.cond false), some (.no)]) (kt := [12]) (ko := []) (T' := [(12, .bool false)]) (O' := []) (by kernel_rfl) (And.intro hb_3_0 (And.intro hb_3_0 (And.intro hb_3_0 (And.intro hb_3_1 (And.intro hb_3_1 (And.intro hb_3_1 (And.intro hb_3_2 (And.intro hb_3_2 (And.intro hb_3_2 (And.intro (neT hb_3_3 : (op0 == 12) ≠ true) (And.intro (neT hb_3_3 : (op0 == 12) ≠ true) (And.intro hb_3_2 (And.intro hb_3_3 (And.intro hb_3_2 trivial)))))))))))))) (by kernel_rfl) (by kernel_rfl) ?_
                obtain rfl := Option.some.inj h
                exact Into.mk
        · rcases itesome h with ⟨hb_3_1, h⟩ | ⟨hb_3_1, h⟩
          · refine Wp.reg tiok mix hc (by kernel_rfl) (ah := none) (rs := [some (.no), some (.no), some (.no), none, none, some (.cond false), some (.no), some (.no), some (.no), some (.cond false), some (.no), none, none, none, none, none, none, some (.cond true), some (.no)]) (kt := [12]) (ko := []) (T' := [(12, .bool true)]) (O' := []) (by kernel_rfl) (And.intro (neT hb_3_0 : (op0 == 8) ≠ true) (And.intro (neT hb_3_0 : (op0 == 8) ≠ true) (And.intro hb_3_0 (And.intro (rfl : false = false) (And.intro (rfl : false = false) (And.intro (rfl : false = false) (And.intro (neF hb_3_1 : (op0 == 9) ≠ false) (And.intro (neF hb_3_1 : (op0 == 9) ≠ false) (And.intro (neF hb_3_1 : (op0 == 9) ≠ false) (And.intro (neF hb_3_1 : (op0 == 9) ≠ false) (And.intro hb_3_1 trivial))))))))))) (by kernel_rfl) (by kernel_rfl) ?_
            obtain rfl := Option.some.inj h
            exact Into.mk
          · rcases itesome h with ⟨hb_3_2, h⟩ | ⟨hb_3_2, h⟩
            · refine Wp.reg tiok mix hc (by kernel_rfl) (ah := none) (rs := [some (.no), some (.no), some (.no), none, none, some (.cond false), some (.no), some (.no), some (.no), some (.cond false), some (.no), some (.no), some (.no), some (.no), some (.no), some (.no), some (.cond true), some (.cond false), some (.no)]) (kt := [12]) (ko := []) (T' := [(12, .bool (kid1 == 1))]) (O' := []) (by kernel_rfl) (And.intro (neT hb_3_0 : (op0 == 8) ≠ true) (And.intro (neT hb_3_0 : (op0 == 8) ≠ true) (And.intro hb_3_0 (And.intro (rfl : false = false) (And.intro (rfl : false = false) (And.intro (rfl : false = false) (And.intro hb_3_1 (And.intro hb_3_1 (And.intro hb_3_1 (And.intro hb_3_2 (And.intro hb_3_2 (And.intro hb_3_1 (And.intro hb_3_2 (And.intro hb_3_1 trivial)))))))))))))) (by kernel_rfl) (by kernel_rfl) ?_
              obtain rfl := Option.some.inj h
              exact Into.mk
            · refine Wp.reg tiok mix hc (by kernel_rfl) (ah := none) (rs := [some (.no), some (.no), some (.no), none, none, some (.cond false), some (.no), some (.no), some (.no), some (.cond false), some (.no), some (.no), some (.no), some (.no), none, none, some (.cond false), some (.cond false), some (.no)]) (kt := [12]) (ko := []) (T' := [(12, .bool false)]) (O' := []) (by kernel_rfl) (And.intro (neT hb_3_0 : (op0 == 8) ≠ true) (And.intro (neT hb_3_0 : (op0 == 8) ≠ true) (And.intro hb_3_0 (And.intro (rfl : false = false) (And.intro (rfl : false = false) (And.intro (rfl : false = false) (And.intro hb_3_1 (And.intro hb_3_1 (And.intro hb_3_1 (And.intro (neT hb_3_2 : (op0 == 12) ≠ true) (And.intro (neT hb_3_2 : (op0 == 12) ≠ true) (And.intro hb_3_1 (And.intro hb_3_2 (And.intro hb_3_1 trivial)))))))))))))) (by kernel_rfl) (by kernel_rfl) ?_
              obtain rfl := Option.some.inj h
              exact Into.mk
      · clear hj_5
        refine seqQ_norm ?_
        rcases itesome h with ⟨hb_6, h⟩ | ⟨hb_6, h⟩
        · refine Wp.condT (b := v_4) (by kernel_rfl) (by kernel_rfl) hb_6 ?_
          refine Wp.seqN (by kernel_rfl) ?_
          refine Wp.reg tiok mix hc (by kernel_rfl) (ah := none) (rs := [some (.no)]) (kt := [4]) (ko := []) (T' := [(4, .int .i64 1)]) (O' := []) (by kernel_rfl) trivial (by kernel_rfl) (by kernel_rfl) ?_
          refine seqQ_norm ?_
          refine Wp.retN (by kernel_rfl) ?_
          refine blockQ_ret ?_
          refine seqQ_ret ?_
          obtain rfl := Option.some.inj h
          exact RetQ.ret (fl := [true]) (by kernel_rfl)
        · refine Wp.condF (b := v_4) (by kernel_rfl) (by kernel_rfl) hb_6 ?_
          refine Wp.skipN (by kernel_rfl) ?_
          refine blockQ_norm ?_
          refine seqQ_norm ?_
          refine Wp.seqN (by kernel_rfl) ?_
          refine Wp.reg tiok mix hc (by kernel_rfl) (ah := none) (rs := [some (.no)]) (kt := [4]) (ko := []) (T' := [(4, .int .i64 0)]) (O' := []) (by kernel_rfl) trivial (by kernel_rfl) (by kernel_rfl) ?_
          refine seqQ_norm ?_
          refine Wp.retN (by kernel_rfl) ?_
          obtain rfl := Option.some.inj h
          exact RetQ.ret (fl := [true]) (by kernel_rfl)
def spec_l2Term_F1 (c : Ctx) : (Unit) ⊕ (Bool) → Exit → AState → Prop
  | .inl _ => Into c (.exit 0) (mkS [] [])
  | .inr r => RetE TIx Try.f97 [] (.bool r)
mutual
def spec_l2Term (p : GTerm × Int × Int × Bool) : Option (Bool) :=
  match p with
  | (t0, n1, size2, closed3) =>
    (spec_l2Node (t0, n1, size2, closed3)) >>= fun r_1_4 =>
    if r_1_4 = true then
      (spec_l2Term_l0 (t0, n1, size2, closed3, 0)) >>= fun fl => match fl with
      | .inl () =>
        some true
      | .inr r =>
        some r
    else
      some false
  partial_fixpoint
def spec_l2Term_l0 (p : GTerm × Int × Int × Bool × Int) : Option ((Unit) ⊕ (Bool)) :=
  match p with
  | (t0, n1, size2, closed3, k_4) =>
    if (decide (k_4 < (t0.fKids.length : Int))) = true then
      (idx t0.fKids k_4) >>= fun e_6_3 =>
      (spec_l2Adds (t0.fOp, k_4)) >>= fun r_6_9 =>
      (spec_l2Term (e_6_3, (wr (n1 + r_6_9)), size2, closed3)) >>= fun r_6_13 =>
      if r_6_13 = true then
        spec_l2Term_l0 (t0, n1, size2, closed3, (wr (k_4 + 1)))
      else
        some (.inr false)
    else
      some (.inl ())
  partial_fixpoint
end
def M_spec_l2Term (p : GTerm × Int × Int × Bool) (r : Bool) : Prop :=
  match p with
  | (t0, n1, size2, closed3) => FnSound Try.prog 97 [.agg [.int .i64 t0.fOp, .int .i64 t0.fN, .sl (List.map I t0.fType), .sl (List.map GTerm_S t0.fKids)], .int .i64 n1, .int .i64 size2, .bool closed3] (.bool r) []
def M_spec_l2Term_l0 (p : GTerm × Int × Int × Bool × Int) (fl : (Unit) ⊕ (Bool)) : Prop :=
  match p with
  | (t0, n1, size2, closed3, k_4) => ∀ c : Ctx, c.nt = 38 → WpL Try.prog c (cl (cl (cr (cl (cr (cr B97)))))) (spec_l2Term_F1 c fl) (mkS [(1, .int .i64 n1), (2, .int .i64 size2), (3, .bool closed3), (4, .ra 1 0), (9, .int .i64 k_4)] [(1, .box [.int .i64 t0.fOp, .int .i64 t0.fN, .sl (List.map I t0.fType), .sl (List.map GTerm_S t0.fKids)])])
theorem spec_l2Term_all : (∀ p r, spec_l2Term p = some r → M_spec_l2Term p r) ∧ (∀ p r, spec_l2Term_l0 p = some r → M_spec_l2Term_l0 p r) := by
  refine spec_l2Term.mutual_partial_correctness M_spec_l2Term M_spec_l2Term_l0 ?_ ?_
  · rintro spec_l2Term_l0_f spec_l2Term_l0_ih ⟨t0, n1, size2, closed3⟩ r h
    show FnSound Try.prog 97 [.agg [.int .i64 t0.fOp, .int .i64 t0.fN, .sl (List.map I t0.fType), .sl (List.map GTerm_S t0.fKids)], .int .i64 n1, .int .i64 size2, .bool closed3] (.bool r) []
    refine FnSound.body0 tiok (fn := Try.f97) (code := B97) (by kernel_rfl) (by kernel_rfl) (by kernel_rfl) (by kernel_rfl) (nt := 38) (by kernel_rfl) (by kernel_rfl) (T := [(0, .agg [.int .i64 t0.fOp, .int .i64 t0.fN, .sl (List.map I t0.fType), .sl (List.map GTerm_S t0.fKids)]), (1, .int .i64 n1), (2, .int .i64 size2), (3, .bool closed3)]) (O := []) (by kernel_rfl) (by kernel_rfl) (fun c hc => ?_)
    refine Wp.seqN (by kernel_rfl) ?_
    refine Wp.reg tiok mix hc (by kernel_rfl) (ah := none) (rs := [some (.new 1), some (.no)]) (kt := [1, 2, 3, 4]) (ko := [1]) (T' := [(1, .int .i64 n1), (2, .int .i64 size2), (3, .bool closed3), (4, .ra 1 0)]) (O' := [(1, .box [.int .i64 t0.fOp, .int .i64 t0.fN, .sl (List.map I t0.fType), .sl (List.map GTerm_S t0.fKids)])]) (by kernel_rfl) trivial (by kernel_rfl) (by kernel_rfl) ?_
    refine seqQ_norm ?_
    refine Wp.seqN (by kernel_rfl) ?_
    refine Wp.seqN (by kernel_rfl) ?_
    obtain ⟨r_1_4, hr_1_4, h⟩ := bsome h
    refine Wp.reg tiok mix hc (by kernel_rfl) (ah := none) (rs := [some (.no), some (.no), some (.no), some (.no), some (.call (.bool r_1_4) [] 1), some (.no)]) (kt := [1, 2, 3, 4, 15]) (ko := [1]) (T' := [(1, .int .i64 n1), (2, .int .i64 size2), (3, .bool closed3), (4, .ra 1 0), (15, .bool (!r_1_4))]) (O' := [(1, .box [.int .i64 t0.fOp, .int .i64 t0.fN, .sl (List.map I t0.fType), .sl (List.map GTerm_S t0.fKids)])]) (by kernel_rfl) (And.intro (spec_l2Node_s _ _ hr_1_4) (And.intro bod_122 (And.intro (Or.inl rfl : ([] : List Nat) = [] ∨ noSh (.bool r_1_4) = true) trivial))) (by kernel_rfl) (by kernel_rfl) ?_
    refine seqQ_norm ?_
    rcases itesome h with ⟨hb_1, h⟩ | ⟨hb_1, h⟩
    · refine Wp.condF (b := (!r_1_4)) (by kernel_rfl) (by kernel_rfl) (nF hb_1) ?_
      refine Wp.skipN (by kernel_rfl) ?_
      refine seqQ_norm ?_
      refine Wp.seqN (by kernel_rfl) ?_
      refine Wp.seqN (by kernel_rfl) ?_
      refine Wp.reg tiok mix hc (by kernel_rfl) (ah := none) (rs := [some (.no)]) (kt := [1, 2, 3, 4, 9]) (ko := [1]) (T' := [(1, .int .i64 n1), (2, .int .i64 size2), (3, .bool closed3), (4, .ra 1 0), (9, .int .i64 0)]) (O' := [(1, .box [.int .i64 t0.fOp, .int .i64 t0.fN, .sl (List.map I t0.fType), .sl (List.map GTerm_S t0.fKids)])]) (by kernel_rfl) trivial (by kernel_rfl) (by kernel_rfl) ?_
      refine seqQ_norm ?_
      refine Wp.blockN (i := 0) (by kernel_rfl) ?_
      obtain ⟨fl, hl_7, h⟩ := bsome h
      have hL := spec_l2Term_l0_ih _ _ hl_7 c hc
      refine Wp.loopN (by kernel_rfl) ?_
      rcases fl with ⟨⟩ | r
      · refine WpL.into (e := (.exit 0)) (mkS [] []) hL ?_
        refine blockQ_hit ?_
        refine seqQ_norm ?_
        refine Wp.seqN (by kernel_rfl) ?_
        refine Wp.reg tiok mix hc (by kernel_rfl) (ah := none) (rs := [some (.no)]) (kt := [8]) (ko := []) (T' := [(8, .bool true)]) (O' := []) (by kernel_rfl) trivial (by kernel_rfl) (by kernel_rfl) ?_
        refine seqQ_norm ?_
        refine Wp.retN (by kernel_rfl) ?_
        obtain rfl := Option.some.inj h
        exact RetQ.ret (fl := [true]) (by kernel_rfl)
      · refine WpL.mono hL ?_
        rintro _ _ ⟨rfl, hfin⟩
        refine blockQ_ret ?_
        refine seqQ_ret ?_
        obtain rfl := Option.some.inj h
        exact ⟨.inl rfl, hfin⟩
    · refine Wp.condT (b := (!r_1_4)) (by kernel_rfl) (by kernel_rfl) (nT hb_1) ?_
      refine Wp.seqN (by kernel_rfl) ?_
      refine Wp.reg tiok mix hc (by kernel_rfl) (ah := none) (rs := [some (.no)]) (kt := [8]) (ko := []) (T' := [(8, .bool false)]) (O' := []) (by kernel_rfl) trivial (by kernel_rfl) (by kernel_rfl) ?_
      refine seqQ_norm ?_
      refine Wp.retN (by kernel_rfl) ?_
      refine seqQ_ret ?_
      obtain rfl := Option.some.inj h
      exact RetQ.ret (fl := [true]) (by kernel_rfl)
  · rintro spec_l2Term_f spec_l2Term_l0_f spec_l2Term_ih spec_l2Term_l0_ih ⟨t0, n1, size2, closed3, k_4⟩ r h
    intro c hc
    show WpL Try.prog c (cl (cl (cr (cl (cr (cr B97)))))) (spec_l2Term_F1 c r) (mkS [(1, .int .i64 n1), (2, .int .i64 size2), (3, .bool closed3), (4, .ra 1 0), (9, .int .i64 k_4)] [(1, .box [.int .i64 t0.fOp, .int .i64 t0.fN, .sl (List.map I t0.fType), .sl (List.map GTerm_S t0.fKids)])])
    refine WpL.step ?_
    refine Wp.seqN (by kernel_rfl) ?_
    refine Wp.seqN (by kernel_rfl) ?_
    refine Wp.reg tiok mix hc (by kernel_rfl) (ah := none) (rs := [some (.no), some (.no), some (.no), some (.eqv (.no) ⟨[(19, .int .i64 (t0.fKids.length : Int))], [], []⟩), some (.no)]) (kt := [1, 2, 3, 4, 9, 20]) (ko := [1]) (T' := [(1, .int .i64 n1), (2, .int .i64 size2), (3, .bool closed3), (4, .ra 1 0), (9, .int .i64 k_4), (20, .bool (decide (k_4 < (t0.fKids.length : Int))))]) (O' := [(1, .box [.int .i64 t0.fOp, .int .i64 t0.fN, .sl (List.map I t0.fType), .sl (List.map GTerm_S t0.fKids)])]) (by kernel_rfl) (And.intro (lenT (d := 19) GTerm_S t0.fKids) trivial) (by kernel_rfl) (by kernel_rfl) ?_
    refine seqQ_norm ?_
    rcases itesome h with ⟨hb_5, h⟩ | ⟨hb_5, h⟩
    · refine Wp.condT (b := (decide (k_4 < (t0.fKids.length : Int)))) (by kernel_rfl) (by kernel_rfl) hb_5 ?_
      refine Wp.skipN (by kernel_rfl) ?_
      refine seqQ_norm ?_
      refine Wp.seqN (by kernel_rfl) ?_
      refine Wp.blockN (i := 1) (by kernel_rfl) ?_
      refine Wp.seqN (by kernel_rfl) ?_
      obtain ⟨e_6_3, hi_6_3, h⟩ := bsome h
      obtain ⟨r_6_9, hr_6_9, h⟩ := bsome h
      obtain ⟨r_6_13, hr_6_13, h⟩ := bsome h
      refine Wp.reg tiok mix hc (by kernel_rfl) (ah := (some [[], [0], [], [0, 1, 2], [0, 1, 2, 3], [], [], [6], [], [6, 7, 8], [5, 6, 7, 8, 9], [], [], [0, 1, 2, 3, 4, 5, 6, 7, 8, 9, 10, 11, 12], [0, 1, 2, 3, 4, 5, 6, 7, 8, 9, 10, 11, 12, 13]])) (rs := [some (.no), some (.no), some (.no), some (.el (.agg [.int .i64 e_6_3.fOp, .int .i64 e_6_3.fN, .sl (List.map I e_6_3.fType), .sl (List.map GTerm_S e_6_3.fKids)])), some (.no), some (.no), some (.no), some (.no), some (.no), some (.call (.int .i64 r_6_9) [] 1), some (.no), some (.no), some (.no), some (.call (.bool r_6_13) [] 1), some (.no)]) (kt := [1, 2, 3, 4, 9, 37]) (ko := [1]) (T' := [(1, .int .i64 n1), (2, .int .i64 size2), (3, .bool closed3), (4, .ra 1 0), (9, .int .i64 k_4), (37, .bool (!r_6_13))]) (O' := [(1, .box [.int .i64 t0.fOp, .int .i64 t0.fN, .sl (List.map I t0.fType), .sl (List.map GTerm_S t0.fKids)])]) (by kernel_rfl) (And.intro (idx_sl (enc := GTerm_S) (x := .agg [.int .i64 e_6_3.fOp, .int .i64 e_6_3.fN, .sl (List.map I e_6_3.fType), .sl (List.map GTerm_S e_6_3.fKids)]) hi_6_3 (eq_GTerm_S e_6_3)) (And.intro (spec_l2Adds_s _ _ hr_6_9) (And.intro bod_113 (And.intro (Or.inl rfl : ([] : List Nat) = [] ∨ noSh (.int .i64 r_6_9) = true) (And.intro (spec_l2Term_ih _ _ hr_6_13) (And.intro bod_97 (And.intro (Or.inl rfl : ([] : List Nat) = [] ∨ noSh (.bool r_6_13) = true) trivial))))))) (by kernel_rfl) (by kernel_rfl) ?_
      refine seqQ_norm ?_
      rcases itesome h with ⟨hb_6, h⟩ | ⟨hb_6, h⟩
      · refine Wp.condF (b := (!r_6_13)) (by kernel_rfl) (by kernel_rfl) (nF hb_6) ?_
        refine Wp.skipN (by kernel_rfl) ?_
        refine blockQ_norm ?_
        refine seqQ_norm ?_
        refine Wp.reg tiok mix hc (by kernel_rfl) (ah := none) (rs := [some (.no), some (.no), some (.no)]) (kt := [1, 2, 3, 4, 9]) (ko := [1]) (T' := [(1, .int .i64 n1), (2, .int .i64 size2), (3, .bool closed3), (4, .ra 1 0), (9, .int .i64 (wr (k_4 + 1)))]) (O' := [(1, .box [.int .i64 t0.fOp, .int .i64 t0.fN, .sl (List.map I t0.fType), .sl (List.map GTerm_S t0.fKids)])]) (by kernel_rfl) trivial (by kernel_rfl) (by kernel_rfl) ?_
        refine loopQ_norm ?_
        exact (spec_l2Term_l0_ih _ _ h c hc)
      · refine Wp.condT (b := (!r_6_13)) (by kernel_rfl) (by kernel_rfl) (nT hb_6) ?_
        refine Wp.seqN (by kernel_rfl) ?_
        refine Wp.reg tiok mix hc (by kernel_rfl) (ah := none) (rs := [some (.no)]) (kt := [8]) (ko := []) (T' := [(8, .bool false)]) (O' := []) (by kernel_rfl) trivial (by kernel_rfl) (by kernel_rfl) ?_
        refine seqQ_norm ?_
        refine Wp.retN (by kernel_rfl) ?_
        refine blockQ_ret ?_
        refine seqQ_ret ?_
        refine loopQ_ret ?_
        obtain rfl := Option.some.inj h
        exact RetE.ret (fl := [true]) (by kernel_rfl)
    · refine Wp.condF (b := (decide (k_4 < (t0.fKids.length : Int)))) (by kernel_rfl) (by kernel_rfl) hb_5 ?_
      refine Wp.exitN (i := 0) (by kernel_rfl) ?_
      refine seqQ_exit ?_
      refine loopQ_exit ?_
      obtain rfl := Option.some.inj h
      exact Into.view (fun a w hv => SRx.renL [] hv (by kernel_rfl) (by kernel_rfl) (by kernel_rfl))
theorem spec_l2Term_s : ∀ p r, spec_l2Term p = some r → M_spec_l2Term p r := spec_l2Term_all.1
theorem spec_l2Term_l0_s : ∀ p r, spec_l2Term_l0 p = some r → M_spec_l2Term_l0 p r := spec_l2Term_all.2
def spec_IsWritten (t0 : GTerm) : Option (Bool) :=
    (
      (spec_l2Left (t0, 400)) >>= fun r_1_1 =>
      if (decide (r_1_1 ≥ 0)) = true then
        (spec_l2Term (t0, 8, 16, false)) >>= fun r_1_5 =>
        some (r_1_5)
      else
        some (false)
    ) >>= fun v_1 =>
    some v_1
def M_spec_IsWritten (t0 : GTerm) (r : Bool) : Prop :=
  FnSound Try.prog 58 [.agg [.int .i64 t0.fOp, .int .i64 t0.fN, .sl (List.map I t0.fType), .sl (List.map GTerm_S t0.fKids)]] (.bool r) []
theorem spec_IsWritten_s : ∀ p r, spec_IsWritten p = some r → M_spec_IsWritten p r := by
  rintro t0 r h
  unfold spec_IsWritten at h
  show FnSound Try.prog 58 [.agg [.int .i64 t0.fOp, .int .i64 t0.fN, .sl (List.map I t0.fType), .sl (List.map GTerm_S t0.fKids)]] (.bool r) []
  refine FnSound.body0 tiok (fn := Try.f58) (code := B58) (by kernel_rfl) (by kernel_rfl) (by kernel_rfl) (by kernel_rfl) (nt := 10) (by kernel_rfl) (by kernel_rfl) (T := [(0, .agg [.int .i64 t0.fOp, .int .i64 t0.fN, .sl (List.map I t0.fType), .sl (List.map GTerm_S t0.fKids)])]) (O := []) (by kernel_rfl) (by kernel_rfl) (fun c hc => ?_)
  refine Wp.seqN (by kernel_rfl) ?_
  refine Wp.reg tiok mix hc (by kernel_rfl) (ah := none) (rs := [some (.new 1), some (.no)]) (kt := [1]) (ko := [1]) (T' := [(1, .ra 1 0)]) (O' := [(1, .box [.int .i64 t0.fOp, .int .i64 t0.fN, .sl (List.map I t0.fType), .sl (List.map GTerm_S t0.fKids)])]) (by kernel_rfl) trivial (by kernel_rfl) (by kernel_rfl) ?_
  refine seqQ_norm ?_
  refine Wp.seqN (by kernel_rfl) ?_
  obtain ⟨v_1, hj_2, h⟩ := bsome h
  refine Wp.into (x := .normal) (mkS [(2, .bool v_1)] []) ?_ ?_
  · replace h := hj_2
    obtain ⟨r_1_1, hr_1_1, h⟩ := bsome h
    rcases itesome h with ⟨hb_1_0, h⟩ | ⟨hb_1_0, h⟩
    · obtain ⟨r_1_5, hr_1_5, h⟩ := bsome h
      refine Wp.reg tiok mix hc (by kernel_rfl) (ah := none) (rs := [some (.no), some (.call (.int .i64 r_1_1) [] 1), some (.no), some (.no), some (.no), some (.call (.bool r_1_5) [] 1), some (.cond true), some (.no)]) (kt := [2]) (ko := []) (T' := [(2, .bool r_1_5)]) (O' := []) (by kernel_rfl) (And.intro (spec_l2Left_s _ _ hr_1_1) (And.intro bod_79 (And.intro (Or.inl rfl : ([] : List Nat) = [] ∨ noSh (.int .i64 r_1_1) = true) (And.intro hb_1_0 (And.intro hb_1_0 (And.intro (spec_l2Term_s _ _ hr_1_5) (And.intro bod_97 (And.intro (Or.inl rfl : ([] : List Nat) = [] ∨ noSh (.bool r_1_5) = true) (And.intro hb_1_0 trivial))))))))) (by kernel_rfl) (by kernel_rfl) ?_
      obtain rfl := Option.some.inj h
      exact Into.mk
    · refine Wp.reg tiok mix hc (by kernel_rfl) (ah := none) (rs := [some (.no), some (.call (.int .i64 r_1_1) [] 1), some (.no), some (.no), none, none, some (.cond false), some (.no)]) (kt := [2]) (ko := []) (T' := [(2, .bool false)]) (O' := []) (by kernel_rfl) (And.intro (spec_l2Left_s _ _ hr_1_1) (And.intro bod_79 (And.intro (Or.inl rfl : ([] : List Nat) = [] ∨ noSh (.int .i64 r_1_1) = true) (And.intro (neT hb_1_0 : (decide (r_1_1 ≥ 0)) ≠ true) (And.intro (neT hb_1_0 : (decide (r_1_1 ≥ 0)) ≠ true) (And.intro hb_1_0 trivial)))))) (by kernel_rfl) (by kernel_rfl) ?_
      obtain rfl := Option.some.inj h
      exact Into.mk
  · clear hj_2
    refine seqQ_norm ?_
    refine Wp.retN (by kernel_rfl) ?_
    obtain rfl := Option.some.inj h
    exact RetQ.ret (fl := [true]) (by kernel_rfl)
def spec_l1Copy (l0 : (List Int)) : Option ((List Int)) :=
    (fits (([] : List Int).length + l0.length) 8) >>= fun _ =>
    some l0
def M_spec_l1Copy (l0 : (List Int)) (r : (List Int)) : Prop :=
  FnSound Try.prog 103 [.sl (List.map I l0)] (.osl (List.map I r)) []
theorem spec_l1Copy_s : ∀ p r, spec_l1Copy p = some r → M_spec_l1Copy p r := by
  rintro l0 r h
  unfold spec_l1Copy at h
  show FnSound Try.prog 103 [.sl (List.map I l0)] (.osl (List.map I r)) []
  refine FnSound.body0 tiok (fn := Try.f103) (code := B103) (by kernel_rfl) (by kernel_rfl) (by kernel_rfl) (by kernel_rfl) (nt := 6) (by kernel_rfl) (by kernel_rfl) (T := [(0, .sl (List.map I l0))]) (O := []) (by kernel_rfl) (by kernel_rfl) (fun c hc => ?_)
  refine Wp.seqN (by kernel_rfl) ?_
  refine Wp.reg tiok mix hc (by kernel_rfl) (ah := none) (rs := [some (.no)]) (kt := [0]) (ko := []) (T' := [(0, .sl (List.map I l0))]) (O' := []) (by kernel_rfl) trivial (by kernel_rfl) (by kernel_rfl) ?_
  refine seqQ_norm ?_
  refine Wp.seqN (by kernel_rfl) ?_
  obtain ⟨_, hk_1_2, h⟩ := bsome h
  refine Wp.reg tiok mix hc (by kernel_rfl) (ah := none) (rs := [some (.mk 1 true), some (.no), some (.eqv (.mk 2 true) ⟨[(5, .rs 2)], [(2, some (.arr (List.map I l0))), (1, none)], [2]⟩), some (.no)]) (kt := [2]) (ko := [2]) (T' := [(2, .rs 2)]) (O' := [(2, .arr (List.map I l0))]) (by kernel_rfl) (And.intro (congrArg (fun z => (⟨[(5, .rs 2)], [(2, some (.arr z)), (1, none)], [2]⟩ : Wr)) (List.nil_append _ : [] ++ (List.map I l0) = List.map I l0)) (And.intro (app_ob (enc1 := I) (enc2 := I) (e1 := []) (e2 := l0) (sz := 1) ek_I ek_I hk_1_2) trivial)) (by kernel_rfl) (by kernel_rfl) ?_
  refine seqQ_norm ?_
  refine Wp.retN (by kernel_rfl) ?_
  obtain rfl := Option.some.inj h
  exact RetQ.ret (fl := [true]) (by kernel_rfl)
def spec_l2Shift_F1 (c : Ctx) (t0 : GTerm) (r_1_6 : List Int) (out_4 : Int) : (List GTerm) → Exit → AState → Prop
  | out_11 => Into c (.exit 0) (mkS [(6, .ra 2 0), (7, .ra 4 0)] [(2, .box [.int .i64 0, .int .i64 0, .nils, .nils]), (3, .arr (List.map I r_1_6)), (4, .box [.int .i64 t0.fOp, .int .i64 out_4, .rs 3, .rs 9]), (9, .arr (List.map GTerm_O out_11))])
mutual
def spec_l2Shift (p : GTerm × Int × Int) : Option (GTerm) :=
  match p with
  | (t0, by1, from2) =>
    (spec_l1Copy t0.fType) >>= fun r_1_6 =>
    (
      if (t0.fOp == 0) = true then
        some ((decide (t0.fN ≥ from2)))
      else
        some (false)
    ) >>= fun v_1 =>
    (
      if v_1 = true then
        some ((wr (t0.fN + by1)))
      else
        some (t0.fN)
    ) >>= fun out_4 =>
    (spec_l2Shift_l0 (t0, by1, from2, r_1_6, out_4, [], 0)) >>= fun out_11 =>
    some (GTerm.mk t0.fOp out_4 r_1_6 out_11)
  partial_fixpoint
def spec_l2Shift_l0 (p : GTerm × Int × Int × (List Int) × Int × (List GTerm) × Int) : Option ((List GTerm)) :=
  match p with
  | (t0, by1, from2, r_1_6, out_4, out_9, k_7) =>
    if (decide (k_7 < (t0.fKids.length : Int))) = true then
      (idx t0.fKids k_7) >>= fun e_7_5 =>
      (spec_l2Adds (t0.fOp, k_7)) >>= fun r_7_12 =>
      (spec_l2Shift (e_7_5, by1, (wr (from2 + r_7_12)))) >>= fun r_7_14 =>
      (fits (out_9.length + [r_7_14].length) 64) >>= fun _ =>
      spec_l2Shift_l0 (t0, by1, from2, r_1_6, out_4, (out_9 ++ [r_7_14]), (wr (k_7 + 1)))
    else
      some (out_9)
  partial_fixpoint
end
def M_spec_l2Shift (p : GTerm × Int × Int) (r : GTerm) : Prop :=
  match p with
  | (t0, by1, from2) => FnSound Try.prog 71 [.agg [.int .i64 t0.fOp, .int .i64 t0.fN, .sl (List.map I t0.fType), .sl (List.map GTerm_S t0.fKids)], .int .i64 by1, .int .i64 from2] (.agg [.int .i64 r.fOp, .int .i64 r.fN, .osl (List.map I r.fType), .osl (List.map GTerm_O r.fKids)]) []
def M_spec_l2Shift_l0 (p : GTerm × Int × Int × (List Int) × Int × (List GTerm) × Int) (fl : (List GTerm)) : Prop :=
  match p with
  | (t0, by1, from2, r_1_6, out_4, out_9, k_7) => ∀ c : Ctx, c.nt = 57 → WpL Try.prog c (cl (cl (cr (cl (cr (cr (cr B71))))))) (spec_l2Shift_F1 c t0 r_1_6 out_4 fl) (mkS [(1, .int .i64 by1), (2, .int .i64 from2), (3, .ra 1 0), (6, .ra 2 0), (7, .ra 4 0), (8, .int .i64 k_7)] [(1, .box [.int .i64 t0.fOp, .int .i64 t0.fN, .sl (List.map I t0.fType), .sl (List.map GTerm_S t0.fKids)]), (2, .box [.int .i64 0, .int .i64 0, .nils, .nils]), (3, .arr (List.map I r_1_6)), (4, .box [.int .i64 t0.fOp, .int .i64 out_4, .rs 3, .rs 9]), (9, .arr (List.map GTerm_O out_9))])
theorem spec_l2Shift_all : (∀ p r, spec_l2Shift p = some r → M_spec_l2Shift p r) ∧ (∀ p r, spec_l2Shift_l0 p = some r → M_spec_l2Shift_l0 p r) := by
  refine spec_l2Shift.mutual_partial_correctness M_spec_l2Shift M_spec_l2Shift_l0 ?_ ?_
  · rintro spec_l2Shift_l0_f spec_l2Shift_l0_ih ⟨t0, by1, from2⟩ r h
    show FnSound Try.prog 71 [.agg [.int .i64 t0.fOp, .int .i64 t0.fN, .sl (List.map I t0.fType), .sl (List.map GTerm_S t0.fKids)], .int .i64 by1, .int .i64 from2] (.agg [.int .i64 r.fOp, .int .i64 r.fN, .osl (List.map I r.fType), .osl (List.map GTerm_O r.fKids)]) []
    refine FnSound.body0 tiok (fn := Try.f71) (code := B71) (by kernel_rfl) (by kernel_rfl) (by kernel_rfl) (by kernel_rfl) (nt := 57) (by kernel_rfl) (by kernel_rfl) (T := [(0, .agg [.int .i64 t0.fOp, .int .i64 t0.fN, .sl (List.map I t0.fType), .sl (List.map GTerm_S t0.fKids)]), (1, .int .i64 by1), (2, .int .i64 from2)]) (O := []) (by kernel_rfl) (by kernel_rfl) (fun c hc => ?_)
    refine Wp.seqN (by kernel_rfl) ?_
    refine Wp.reg tiok mix hc (by kernel_rfl) (ah := none) (rs := [some (.new 1), some (.new 2)]) (kt := [1, 2, 3, 6]) (ko := [1, 2]) (T' := [(1, .int .i64 by1), (2, .int .i64 from2), (3, .ra 1 0), (6, .ra 2 0)]) (O' := [(1, .box [.int .i64 t0.fOp, .int .i64 t0.fN, .sl (List.map I t0.fType), .sl (List.map GTerm_S t0.fKids)]), (2, .box [.int .i64 0, .int .i64 0, .nils, .nils])]) (by kernel_rfl) trivial (by kernel_rfl) (by kernel_rfl) ?_
    refine seqQ_norm ?_
    refine Wp.seqN (by kernel_rfl) ?_
    obtain ⟨r_1_6, hr_1_6, h⟩ := bsome h
    refine Wp.reg tiok mix hc (by kernel_rfl) (ah := (some [[], [0], [], [2], [], [4], [4, 5], [0, 1, 2, 3, 4, 5, 6], [], [0, 1, 2, 3, 4, 5, 6, 7, 8]])) (rs := [some (.no), some (.no), some (.no), some (.no), some (.no), some (.no), some (.call (.osl (List.map I r_1_6)) [] 3), some (.no), some (.new 4), some (.no)]) (kt := [1, 2, 3, 6, 7]) (ko := [1, 2, 3, 4]) (T' := [(1, .int .i64 by1), (2, .int .i64 from2), (3, .ra 1 0), (6, .ra 2 0), (7, .ra 4 0)]) (O' := [(1, .box [.int .i64 t0.fOp, .int .i64 t0.fN, .sl (List.map I t0.fType), .sl (List.map GTerm_S t0.fKids)]), (2, .box [.int .i64 0, .int .i64 0, .nils, .nils]), (3, .arr (List.map I r_1_6)), (4, .box [.int .i64 t0.fOp, .int .i64 t0.fN, .rs 3, .nils])]) (by kernel_rfl) (And.intro (spec_l1Copy_s _ _ hr_1_6) (And.intro bod_103 (And.intro (Or.inl rfl : ([] : List Nat) = [] ∨ noSh (.osl (List.map I r_1_6)) = true) trivial))) (by kernel_rfl) (by kernel_rfl) ?_
    refine seqQ_norm ?_
    refine Wp.seqN (by kernel_rfl) ?_
    refine Wp.seqN (by kernel_rfl) ?_
    obtain ⟨v_1, hj_2, h⟩ := bsome h
    refine Wp.into (x := .normal) (mkS [(1, .int .i64 by1), (2, .int .i64 from2), (3, .ra 1 0), (6, .ra 2 0), (7, .ra 4 0), (25, .bool v_1)] [(1, .box [.int .i64 t0.fOp, .int .i64 t0.fN, .sl (List.map I t0.fType), .sl (List.map GTerm_S t0.fKids)]), (2, .box [.int .i64 0, .int .i64 0, .nils, .nils]), (3, .arr (List.map I r_1_6)), (4, .box [.int .i64 t0.fOp, .int .i64 t0.fN, .rs 3, .nils])]) ?_ ?_
    · replace h := hj_2
      rcases itesome h with ⟨hb_2_0, h⟩ | ⟨hb_2_0, h⟩
      · refine Wp.reg tiok mix hc (by kernel_rfl) (ah := none) (rs := [some (.no), some (.no), some (.no), some (.no), some (.no), some (.no), some (.no), some (.no), some (.cond true)]) (kt := [1, 2, 3, 6, 7, 25]) (ko := [1, 2, 3, 4]) (T' := [(1, .int .i64 by1), (2, .int .i64 from2), (3, .ra 1 0), (6, .ra 2 0), (7, .ra 4 0), (25, .bool (decide (t0.fN ≥ from2)))]) (O' := [(1, .box [.int .i64 t0.fOp, .int .i64 t0.fN, .sl (List.map I t0.fType), .sl (List.map GTerm_S t0.fKids)]), (2, .box [.int .i64 0, .int .i64 0, .nils, .nils]), (3, .arr (List.map I r_1_6)), (4, .box [.int .i64 t0.fOp, .int .i64 t0.fN, .rs 3, .nils])]) (by kernel_rfl) (And.intro hb_2_0 (And.intro hb_2_0 (And.intro hb_2_0 (And.intro hb_2_0 (And.intro hb_2_0 trivial))))) (by kernel_rfl) (by kernel_rfl) ?_
        obtain rfl := Option.some.inj h
        exact Into.mk
      · refine Wp.reg tiok mix hc (by kernel_rfl) (ah := none) (rs := [some (.no), some (.no), some (.no), some (.no), none, none, none, none, some (.cond false)]) (kt := [1, 2, 3, 6, 7, 25]) (ko := [1, 2, 3, 4]) (T' := [(1, .int .i64 by1), (2, .int .i64 from2), (3, .ra 1 0), (6, .ra 2 0), (7, .ra 4 0), (25, .bool false)]) (O' := [(1, .box [.int .i64 t0.fOp, .int .i64 t0.fN, .sl (List.map I t0.fType), .sl (List.map GTerm_S t0.fKids)]), (2, .box [.int .i64 0, .int .i64 0, .nils, .nils]), (3, .arr (List.map I r_1_6)), (4, .box [.int .i64 t0.fOp, .int .i64 t0.fN, .rs 3, .nils])]) (by kernel_rfl) (And.intro (neT hb_2_0 : (t0.fOp == 0) ≠ true) (And.intro (neT hb_2_0 : (t0.fOp == 0) ≠ true) (And.intro (neT hb_2_0 : (t0.fOp == 0) ≠ true) (And.intro (neT hb_2_0 : (t0.fOp == 0) ≠ true) (And.intro hb_2_0 trivial))))) (by kernel_rfl) (by kernel_rfl) ?_
        obtain rfl := Option.some.inj h
        exact Into.mk
    · clear hj_2
      refine seqQ_norm ?_
      obtain ⟨out_4, hj_5, h⟩ := bsome h
      refine Wp.into (x := .normal) (mkS [(1, .int .i64 by1), (2, .int .i64 from2), (3, .ra 1 0), (6, .ra 2 0), (7, .ra 4 0)] [(1, .box [.int .i64 t0.fOp, .int .i64 t0.fN, .sl (List.map I t0.fType), .sl (List.map GTerm_S t0.fKids)]), (2, .box [.int .i64 0, .int .i64 0, .nils, .nils]), (3, .arr (List.map I r_1_6)), (4, .box [.int .i64 t0.fOp, .int .i64 out_4, .rs 3, .nils])]) ?_ ?_
      · replace h := hj_5
        rcases itesome h with ⟨hb_3, h⟩ | ⟨hb_3, h⟩
        · refine Wp.condT (b := v_1) (by kernel_rfl) (by kernel_rfl) hb_3 ?_
          refine Wp.reg tiok mix hc (by kernel_rfl) (ah := none) (rs := [some (.no), some (.no), some (.no), some (.no), some (.no), some (.no)]) (kt := [1, 2, 3, 6, 7]) (ko := [1, 2, 3, 4]) (T' := [(1, .int .i64 by1), (2, .int .i64 from2), (3, .ra 1 0), (6, .ra 2 0), (7, .ra 4 0)]) (O' := [(1, .box [.int .i64 t0.fOp, .int .i64 t0.fN, .sl (List.map I t0.fType), .sl (List.map GTerm_S t0.fKids)]), (2, .box [.int .i64 0, .int .i64 0, .nils, .nils]), (3, .arr (List.map I r_1_6)), (4, .box [.int .i64 t0.fOp, .int .i64 (wr (t0.fN + by1)), .rs 3, .nils])]) (by kernel_rfl) trivial (by kernel_rfl) (by kernel_rfl) ?_
          obtain rfl := Option.some.inj h
          exact Into.mk
        · refine Wp.condF (b := v_1) (by kernel_rfl) (by kernel_rfl) hb_3 ?_
          refine Wp.skipN (by kernel_rfl) ?_
          obtain rfl := Option.some.inj h
          exact Into.view (fun a w hv => SRx.renL [] hv (by kernel_rfl) (by kernel_rfl) (by kernel_rfl))
      · clear hj_5
        refine seqQ_norm ?_
        refine Wp.seqN (by kernel_rfl) ?_
        refine Wp.seqN (by kernel_rfl) ?_
        refine Wp.reg tiok mix hc (by kernel_rfl) (ah := none) (rs := [some (.no)]) (kt := [1, 2, 3, 6, 7, 8]) (ko := [1, 2, 3, 4]) (T' := [(1, .int .i64 by1), (2, .int .i64 from2), (3, .ra 1 0), (6, .ra 2 0), (7, .ra 4 0), (8, .int .i64 0)]) (O' := [(1, .box [.int .i64 t0.fOp, .int .i64 t0.fN, .sl (List.map I t0.fType), .sl (List.map GTerm_S t0.fKids)]), (2, .box [.int .i64 0, .int .i64 0, .nils, .nils]), (3, .arr (List.map I r_1_6)), (4, .box [.int .i64 t0.fOp, .int .i64 out_4, .rs 3, .nils])]) (by kernel_rfl) trivial (by kernel_rfl) (by kernel_rfl) ?_
        refine seqQ_norm ?_
        refine Wp.blockN (i := 0) (by kernel_rfl) ?_
        obtain ⟨out_11, hl_12, h⟩ := bsome h
        have hL := spec_l2Shift_l0_ih _ _ hl_12 c hc
        refine Wp.loopN (by kernel_rfl) (WpL.view (fun a w hv => SRx.renL [(9, 18)] (SRx.nilBL 4 3 18 [.int .i64 t0.fOp, .int .i64 out_4, .rs 3, .nils] hv (by kernel_rfl) (by kernel_rfl) (by kernel_rfl)) (by kernel_rfl) (by kernel_rfl) (by kernel_rfl)) (?_ : WpL _ c _ _ (mkS [(1, .int .i64 by1), (2, .int .i64 from2), (3, .ra 1 0), (6, .ra 2 0), (7, .ra 4 0), (8, .int .i64 0)] [(1, .box [.int .i64 t0.fOp, .int .i64 t0.fN, .sl (List.map I t0.fType), .sl (List.map GTerm_S t0.fKids)]), (2, .box [.int .i64 0, .int .i64 0, .nils, .nils]), (3, .arr (List.map I r_1_6)), (4, .box [.int .i64 t0.fOp, .int .i64 out_4, .rs 3, .rs 9]), (9, .arr (List.map GTerm_O []))])))
        · refine WpL.into (e := (.exit 0)) (mkS [(6, .ra 2 0), (7, .ra 4 0)] [(2, .box [.int .i64 0, .int .i64 0, .nils, .nils]), (3, .arr (List.map I r_1_6)), (4, .box [.int .i64 t0.fOp, .int .i64 out_4, .rs 3, .rs 9]), (9, .arr (List.map GTerm_O out_11))]) hL ?_
          refine blockQ_hit ?_
          refine seqQ_norm ?_
          refine Wp.seqN (by kernel_rfl) ?_
          refine Wp.reg tiok mix hc (by kernel_rfl) (ah := none) (rs := [some (.no), some (.no)]) (kt := [6]) (ko := [2, 3, 9]) (T' := [(6, .ra 2 0)]) (O' := [(2, .box [.int .i64 t0.fOp, .int .i64 out_4, .rs 3, .rs 9]), (3, .arr (List.map I r_1_6)), (9, .arr (List.map GTerm_O out_11))]) (by kernel_rfl) trivial (by kernel_rfl) (by kernel_rfl) ?_
          refine seqQ_norm ?_
          refine Wp.retN (by kernel_rfl) ?_
          obtain rfl := Option.some.inj h
          exact RetQ.ret (fl := [true]) (by kernel_rfl)
  · rintro spec_l2Shift_f spec_l2Shift_l0_f spec_l2Shift_ih spec_l2Shift_l0_ih ⟨t0, by1, from2, r_1_6, out_4, out_9, k_7⟩ r h
    intro c hc
    show WpL Try.prog c (cl (cl (cr (cl (cr (cr (cr B71))))))) (spec_l2Shift_F1 c t0 r_1_6 out_4 r) (mkS [(1, .int .i64 by1), (2, .int .i64 from2), (3, .ra 1 0), (6, .ra 2 0), (7, .ra 4 0), (8, .int .i64 k_7)] [(1, .box [.int .i64 t0.fOp, .int .i64 t0.fN, .sl (List.map I t0.fType), .sl (List.map GTerm_S t0.fKids)]), (2, .box [.int .i64 0, .int .i64 0, .nils, .nils]), (3, .arr (List.map I r_1_6)), (4, .box [.int .i64 t0.fOp, .int .i64 out_4, .rs 3, .rs 9]), (9, .arr (List.map GTerm_O out_9))])
    refine WpL.step ?_
    refine Wp.seqN (by kernel_rfl) ?_
    refine Wp.seqN (by kernel_rfl) ?_
    refine Wp.reg tiok mix hc (by kernel_rfl) (ah := none) (rs := [some (.no), some (.no), some (.no), some (.eqv (.no) ⟨[(34, .int .i64 (t0.fKids.length : Int))], [], []⟩), some (.no)]) (kt := [1, 2, 3, 6, 7, 8, 35]) (ko := [1, 2, 3, 4, 9]) (T' := [(1, .int .i64 by1), (2, .int .i64 from2), (3, .ra 1 0), (6, .ra 2 0), (7, .ra 4 0), (8, .int .i64 k_7), (35, .bool (decide (k_7 < (t0.fKids.length : Int))))]) (O' := [(1, .box [.int .i64 t0.fOp, .int .i64 t0.fN, .sl (List.map I t0.fType), .sl (List.map GTerm_S t0.fKids)]), (2, .box [.int .i64 0, .int .i64 0, .nils, .nils]), (3, .arr (List.map I r_1_6)), (4, .box [.int .i64 t0.fOp, .int .i64 out_4, .rs 3, .rs 9]), (9, .arr (List.map GTerm_O out_9))]) (by kernel_rfl) (And.intro (lenT (d := 34) GTerm_S t0.fKids) trivial) (by kernel_rfl) (by kernel_rfl) ?_
    refine seqQ_norm ?_
    rcases itesome h with ⟨hb_10, h⟩ | ⟨hb_10, h⟩
    · refine Wp.condT (b := (decide (k_7 < (t0.fKids.length : Int)))) (by kernel_rfl) (by kernel_rfl) hb_10 ?_
      refine Wp.skipN (by kernel_rfl) ?_
      refine seqQ_norm ?_
      refine Wp.seqN (by kernel_rfl) ?_
      refine Wp.blockN (i := 1) (by kernel_rfl) ?_
      obtain ⟨e_7_5, hi_7_5, h⟩ := bsome h
      obtain ⟨r_7_12, hr_7_12, h⟩ := bsome h
      obtain ⟨r_7_14, hr_7_14, h⟩ := bsome h
      obtain ⟨_, hk_7_16, h⟩ := bsome h
      refine Wp.reg tiok mix hc (by kernel_rfl) (ah := (some [[], [0], [], [2], [], [2, 3, 4], [2, 3, 4, 5], [], [], [], [9], [], [9, 10, 11], [8, 9, 10, 11, 12], [2, 3, 4, 5, 6, 7, 8, 9, 10, 11, 12, 13], [2, 3, 4, 5, 6, 7, 8, 9, 10, 11, 12, 13, 14], [0, 1, 2, 3, 4, 5, 6, 7, 8, 9, 10, 11, 12, 13, 14, 15], [0, 1, 2, 3, 4, 5, 6, 7, 8, 9, 10, 11, 12, 13, 14, 15, 16], [0, 1, 2, 3, 4, 5, 6, 7, 8, 9, 10, 11, 12, 13, 14, 15, 16, 17]])) (rs := [some (.no), some (.no), some (.no), some (.no), some (.no), some (.el (.agg [.int .i64 e_7_5.fOp, .int .i64 e_7_5.fN, .sl (List.map I e_7_5.fType), .sl (List.map GTerm_S e_7_5.fKids)])), some (.no), some (.no), some (.no), some (.no), some (.no), some (.no), some (.call (.int .i64 r_7_12) [] 1), some (.no), some (.call (.agg [.int .i64 r_7_14.fOp, .int .i64 r_7_14.fN, .osl (List.map I r_7_14.fType), .osl (List.map GTerm_O r_7_14.fKids)]) [] 14), some (.eqv (.mk 16 true) ⟨[(53, .rs 16)], [(16, some (.arr (List.map GTerm_O [r_7_14]))), (14, none), (15, none)], [16]⟩), some (.eqv (.mk 17 true) ⟨[(54, .rs 17)], [(17, some (.arr (List.map GTerm_O (out_9 ++ [r_7_14])))), (9, none), (16, none)], [17]⟩), some (.no), some (.no)]) (kt := [1, 2, 3, 6, 7, 8]) (ko := [1, 2, 3, 4, 17]) (T' := [(1, .int .i64 by1), (2, .int .i64 from2), (3, .ra 1 0), (6, .ra 2 0), (7, .ra 4 0), (8, .int .i64 k_7)]) (O' := [(1, .box [.int .i64 t0.fOp, .int .i64 t0.fN, .sl (List.map I t0.fType), .sl (List.map GTerm_S t0.fKids)]), (2, .box [.int .i64 0, .int .i64 0, .nils, .nils]), (3, .arr (List.map I r_1_6)), (4, .box [.int .i64 t0.fOp, .int .i64 out_4, .rs 3, .rs 17]), (17, .arr (List.map GTerm_O (out_9 ++ [r_7_14])))]) (by kernel_rfl) (And.intro (idx_sl (enc := GTerm_S) (x := .agg [.int .i64 e_7_5.fOp, .int .i64 e_7_5.fN, .sl (List.map I e_7_5.fType), .sl (List.map GTerm_S e_7_5.fKids)]) hi_7_5 (eq_GTerm_S e_7_5)) (And.intro (spec_l2Adds_s _ _ hr_7_12) (And.intro bod_113 (And.intro (Or.inl rfl : ([] : List Nat) = [] ∨ noSh (.int .i64 r_7_12) = true) (And.intro (spec_l2Shift_ih _ _ hr_7_14) (And.intro bod_71 (And.intro (Or.inl rfl : ([] : List Nat) = [] ∨ noSh (.agg [.int .i64 r_7_14.fOp, .int .i64 r_7_14.fN, .osl (List.map I r_7_14.fType), .osl (List.map GTerm_O r_7_14.fKids)]) = true) (And.intro (congrArg (fun z => (⟨[(53, .rs 16)], [(16, some (.arr z)), (14, none), (15, none)], [16]⟩ : Wr)) ((rows1 (eq_GTerm_O r_7_14) rows0) : [AV.agg [.int .i64 r_7_14.fOp, .int .i64 r_7_14.fN, AV.osl (List.map I r_7_14.fType), AV.osl (List.map GTerm_O r_7_14.fKids)]] = List.map GTerm_O [r_7_14])) (And.intro (congrArg (fun z => (⟨[(54, .rs 17)], [(17, some (.arr z)), (9, none), (16, none)], [17]⟩ : Wr)) ((List.map_append).symm : (List.map GTerm_O out_9) ++ (List.map GTerm_O [r_7_14]) = List.map GTerm_O (out_9 ++ [r_7_14]))) (And.intro (app_ob (enc1 := GTerm_O) (enc2 := GTerm_O) (e1 := out_9) (e2 := [r_7_14]) (sz := 4) ek_GTerm_O ek_GTerm_O hk_7_16) trivial)))))))))) (by kernel_rfl) (by kernel_rfl) ?_
      refine blockQ_norm ?_
      refine seqQ_norm ?_
      refine Wp.reg tiok mix hc (by kernel_rfl) (ah := none) (rs := [some (.no), some (.no), some (.no)]) (kt := [1, 2, 3, 6, 7, 8]) (ko := [1, 2, 3, 4, 17]) (T' := [(1, .int .i64 by1), (2, .int .i64 from2), (3, .ra 1 0), (6, .ra 2 0), (7, .ra 4 0), (8, .int .i64 (wr (k_7 + 1)))]) (O' := [(1, .box [.int .i64 t0.fOp, .int .i64 t0.fN, .sl (List.map I t0.fType), .sl (List.map GTerm_S t0.fKids)]), (2, .box [.int .i64 0, .int .i64 0, .nils, .nils]), (3, .arr (List.map I r_1_6)), (4, .box [.int .i64 t0.fOp, .int .i64 out_4, .rs 3, .rs 17]), (17, .arr (List.map GTerm_O (out_9 ++ [r_7_14])))]) (by kernel_rfl) trivial (by kernel_rfl) (by kernel_rfl) ?_
      refine loopQ_norm ?_
      exact WpL.view (fun a w hv => SRx.renL [(9, 17)] hv (by kernel_rfl) (by kernel_rfl) (by kernel_rfl)) (spec_l2Shift_l0_ih _ _ h c hc)
    · refine Wp.condF (b := (decide (k_7 < (t0.fKids.length : Int)))) (by kernel_rfl) (by kernel_rfl) hb_10 ?_
      refine Wp.exitN (i := 0) (by kernel_rfl) ?_
      refine seqQ_exit ?_
      refine loopQ_exit ?_
      obtain rfl := Option.some.inj h
      exact Into.view (fun a w hv => SRx.renL [] hv (by kernel_rfl) (by kernel_rfl) (by kernel_rfl))
theorem spec_l2Shift_s : ∀ p r, spec_l2Shift p = some r → M_spec_l2Shift p r := spec_l2Shift_all.1
theorem spec_l2Shift_l0_s : ∀ p r, spec_l2Shift_l0 p = some r → M_spec_l2Shift_l0 p r := spec_l2Shift_all.2
def spec_TermAt_F1 (c : Ctx) : (Int × Int × (List Int) × (List GTerm)) ⊕ ((GTerm × Bool)) → Exit → AState → Prop
  | .inl (t_11, t_12, t_13, t_14) => Into c (.exit 0) (mkS [(2, .ra 1 0), (4, .ra 2 0)] [(1, .box [.int .i64 t_11, .int .i64 t_12, .sl (List.map I t_13), .sl (List.map GTerm_S t_14)]), (2, .box [.int .i64 0, .int .i64 0, .nils, .nils])])
  | .inr r => RetE TIx Try.f30 [] (.tup [.agg [.int .i64 r.1.fOp, .int .i64 r.1.fN, .osl (List.map I r.1.fType), .osl (List.map GTerm_O r.1.fKids)], .bool r.2])
def spec_TermAt_l0 (p : (List Int) × Int × Int × (List Int) × (List GTerm) × Int) : Option ((Int × Int × (List Int) × (List GTerm)) ⊕ ((GTerm × Bool))) :=
  match p with
  | (path1, t_4, t_5, t_6, t_7, i_8) =>
    if (decide (i_8 < (path1.length : Int))) = true then
      (idx path1 i_8) >>= fun e_6_2 =>
      (spec_l1In (e_6_2, 0, (wr ((t_7.length : Int) - 1)))) >>= fun r_6_8 =>
      if r_6_8 = true then
        (idx path1 i_8) >>= fun e_8_4 =>
        (idx t_7 e_8_4) >>= fun e_8_6 =>
        spec_TermAt_l0 (path1, e_8_6.fOp, e_8_6.fN, e_8_6.fType, e_8_6.fKids, (wr (i_8 + 1)))
      else
        some (.inr ((GTerm.mk 0 0 [] []), false))
    else
      some (.inl (t_4, t_5, t_6, t_7))
  partial_fixpoint
def M_spec_TermAt_l0 (p : (List Int) × Int × Int × (List Int) × (List GTerm) × Int) (fl : (Int × Int × (List Int) × (List GTerm)) ⊕ ((GTerm × Bool))) : Prop :=
  match p with
  | (path1, t_4, t_5, t_6, t_7, i_8) => ∀ c : Ctx, c.nt = 38 → WpL Try.prog c (cl (cl (cr (cl (cr (cr B30)))))) (spec_TermAt_F1 c fl) (mkS [(1, .sl (List.map I path1)), (2, .ra 1 0), (4, .ra 2 0), (6, .int .i64 i_8)] [(1, .box [.int .i64 t_4, .int .i64 t_5, .sl (List.map I t_6), .sl (List.map GTerm_S t_7)]), (2, .box [.int .i64 0, .int .i64 0, .nils, .nils])])
theorem spec_TermAt_l0_s : ∀ p r, spec_TermAt_l0 p = some r → M_spec_TermAt_l0 p r := by
  refine spec_TermAt_l0.partial_correctness M_spec_TermAt_l0 ?_
  rintro spec_TermAt_l0_f spec_TermAt_l0_ih ⟨path1, t_4, t_5, t_6, t_7, i_8⟩ r h
  intro c hc
  show WpL Try.prog c (cl (cl (cr (cl (cr (cr B30)))))) (spec_TermAt_F1 c r) (mkS [(1, .sl (List.map I path1)), (2, .ra 1 0), (4, .ra 2 0), (6, .int .i64 i_8)] [(1, .box [.int .i64 t_4, .int .i64 t_5, .sl (List.map I t_6), .sl (List.map GTerm_S t_7)]), (2, .box [.int .i64 0, .int .i64 0, .nils, .nils])])
  refine WpL.step ?_
  refine Wp.seqN (by kernel_rfl) ?_
  refine Wp.seqN (by kernel_rfl) ?_
  refine Wp.reg tiok mix hc (by kernel_rfl) (ah := none) (rs := [some (.no), some (.no), some (.eqv (.no) ⟨[(13, .int .i64 (path1.length : Int))], [], []⟩), some (.no)]) (kt := [1, 2, 4, 6, 14]) (ko := [1, 2]) (T' := [(1, .sl (List.map I path1)), (2, .ra 1 0), (4, .ra 2 0), (6, .int .i64 i_8), (14, .bool (decide (i_8 < (path1.length : Int))))]) (O' := [(1, .box [.int .i64 t_4, .int .i64 t_5, .sl (List.map I t_6), .sl (List.map GTerm_S t_7)]), (2, .box [.int .i64 0, .int .i64 0, .nils, .nils])]) (by kernel_rfl) (And.intro (lenT (d := 13) I path1) trivial) (by kernel_rfl) (by kernel_rfl) ?_
  refine seqQ_norm ?_
  rcases itesome h with ⟨hb_9, h⟩ | ⟨hb_9, h⟩
  · refine Wp.condT (b := (decide (i_8 < (path1.length : Int)))) (by kernel_rfl) (by kernel_rfl) hb_9 ?_
    refine Wp.skipN (by kernel_rfl) ?_
    refine seqQ_norm ?_
    refine Wp.seqN (by kernel_rfl) ?_
    refine Wp.blockN (i := 1) (by kernel_rfl) ?_
    refine Wp.seqN (by kernel_rfl) ?_
    refine Wp.seqN (by kernel_rfl) ?_
    obtain ⟨e_6_2, hi_6_2, h⟩ := bsome h
    obtain ⟨r_6_8, hr_6_8, h⟩ := bsome h
    refine Wp.reg tiok mix hc (by kernel_rfl) (ah := (some [[], [], [0, 1], [0, 1, 2], [], [4], [4, 5], [4, 5, 6], [0, 1, 2, 3, 4, 5, 6, 7], [0, 1, 2, 3, 4, 5, 6, 7, 8]])) (rs := [some (.no), some (.no), some (.el (.int .i64 e_6_2)), some (.no), some (.no), some (.no), some (.eqv (.no) ⟨[(23, .int .i64 (t_7.length : Int))], [], []⟩), some (.no), some (.call (.bool r_6_8) [] 1), some (.no)]) (kt := [1, 2, 4, 6, 26]) (ko := [1, 2]) (T' := [(1, .sl (List.map I path1)), (2, .ra 1 0), (4, .ra 2 0), (6, .int .i64 i_8), (26, .bool (!r_6_8))]) (O' := [(1, .box [.int .i64 t_4, .int .i64 t_5, .sl (List.map I t_6), .sl (List.map GTerm_S t_7)]), (2, .box [.int .i64 0, .int .i64 0, .nils, .nils])]) (by kernel_rfl) (And.intro (idx_sl (enc := I) (x := .int .i64 e_6_2) hi_6_2 (eq_I e_6_2)) (And.intro (lenT (d := 23) GTerm_S t_7) (And.intro (spec_l1In_s _ _ hr_6_8) (And.intro bod_70 (And.intro (Or.inl rfl : ([] : List Nat) = [] ∨ noSh (.bool r_6_8) = true) trivial))))) (by kernel_rfl) (by kernel_rfl) ?_
    refine seqQ_norm ?_
    rcases itesome h with ⟨hb_10, h⟩ | ⟨hb_10, h⟩
    · refine Wp.condF (b := (!r_6_8)) (by kernel_rfl) (by kernel_rfl) (nF hb_10) ?_
      refine Wp.skipN (by kernel_rfl) ?_
      refine seqQ_norm ?_
      obtain ⟨e_8_4, hi_8_4, h⟩ := bsome h
      obtain ⟨e_8_6, hi_8_6, h⟩ := bsome h
      refine Wp.reg tiok mix hc (by kernel_rfl) (ah := (some [[], [0], [], [], [2, 3], [2, 3, 4], [0, 1, 2, 3, 4, 5], [0, 1, 2, 3, 4, 5, 6], [0, 1, 2, 3, 4, 5, 6, 7]])) (rs := [some (.no), some (.no), some (.no), some (.no), some (.el (.int .i64 e_8_4)), some (.no), some (.el (.agg [.int .i64 e_8_6.fOp, .int .i64 e_8_6.fN, .sl (List.map I e_8_6.fType), .sl (List.map GTerm_S e_8_6.fKids)])), some (.no), some (.no)]) (kt := [1, 2, 4, 6]) (ko := [1, 2]) (T' := [(1, .sl (List.map I path1)), (2, .ra 1 0), (4, .ra 2 0), (6, .int .i64 i_8)]) (O' := [(1, .box [.int .i64 e_8_6.fOp, .int .i64 e_8_6.fN, .sl (List.map I e_8_6.fType), .sl (List.map GTerm_S e_8_6.fKids)]), (2, .box [.int .i64 0, .int .i64 0, .nils, .nils])]) (by kernel_rfl) (And.intro (idx_sl (enc := I) (x := .int .i64 e_8_4) hi_8_4 (eq_I e_8_4)) (And.intro (idx_sl (enc := GTerm_S) (x := .agg [.int .i64 e_8_6.fOp, .int .i64 e_8_6.fN, .sl (List.map I e_8_6.fType), .sl (List.map GTerm_S e_8_6.fKids)]) hi_8_6 (eq_GTerm_S e_8_6)) trivial)) (by kernel_rfl) (by kernel_rfl) ?_
      refine blockQ_norm ?_
      refine seqQ_norm ?_
      refine Wp.reg tiok mix hc (by kernel_rfl) (ah := none) (rs := [some (.no), some (.no), some (.no)]) (kt := [1, 2, 4, 6]) (ko := [1, 2]) (T' := [(1, .sl (List.map I path1)), (2, .ra 1 0), (4, .ra 2 0), (6, .int .i64 (wr (i_8 + 1)))]) (O' := [(1, .box [.int .i64 e_8_6.fOp, .int .i64 e_8_6.fN, .sl (List.map I e_8_6.fType), .sl (List.map GTerm_S e_8_6.fKids)]), (2, .box [.int .i64 0, .int .i64 0, .nils, .nils])]) (by kernel_rfl) trivial (by kernel_rfl) (by kernel_rfl) ?_
      refine loopQ_norm ?_
      exact (spec_TermAt_l0_ih _ _ h c hc)
    · refine Wp.condT (b := (!r_6_8)) (by kernel_rfl) (by kernel_rfl) (nT hb_10) ?_
      refine Wp.seqN (by kernel_rfl) ?_
      refine Wp.reg tiok mix hc (by kernel_rfl) (ah := none) (rs := [some (.no), some (.no), some (.no)]) (kt := [4, 5]) (ko := [2]) (T' := [(4, .ra 2 0), (5, .bool false)]) (O' := [(2, .box [.int .i64 0, .int .i64 0, .nils, .nils])]) (by kernel_rfl) trivial (by kernel_rfl) (by kernel_rfl) ?_
      refine seqQ_norm ?_
      refine Wp.retN (by kernel_rfl) ?_
      refine seqQ_ret ?_
      refine blockQ_ret ?_
      refine seqQ_ret ?_
      refine loopQ_ret ?_
      obtain rfl := Option.some.inj h
      exact RetE.ret (fl := [true, true]) (by kernel_rfl)
  · refine Wp.condF (b := (decide (i_8 < (path1.length : Int)))) (by kernel_rfl) (by kernel_rfl) hb_9 ?_
    refine Wp.exitN (i := 0) (by kernel_rfl) ?_
    refine seqQ_exit ?_
    refine loopQ_exit ?_
    obtain rfl := Option.some.inj h
    exact Into.view (fun a w hv => SRx.renL [] hv (by kernel_rfl) (by kernel_rfl) (by kernel_rfl))
def spec_TermAt (p : GTerm × (List Int)) : Option (GTerm × Bool) :=
  match p with
  | (t0, path1) =>
    (spec_IsWritten t0) >>= fun r_1_1 =>
    if r_1_1 = true then
      (spec_TermAt_l0 (path1, t0.fOp, t0.fN, t0.fType, t0.fKids, 0)) >>= fun fl => match fl with
      | .inl (t_11, t_12, t_13, t_14) =>
        (spec_l2Shift ((GTerm.mk t_11 t_12 t_13 t_14), 0, 0)) >>= fun r_9_1 =>
        some (r_9_1, true)
      | .inr r =>
        some r
    else
      some ((GTerm.mk 0 0 [] []), false)
def M_spec_TermAt (p : GTerm × (List Int)) (r : GTerm × Bool) : Prop :=
  match p with
  | (t0, path1) => FnSound Try.prog 30 [.agg [.int .i64 t0.fOp, .int .i64 t0.fN, .sl (List.map I t0.fType), .sl (List.map GTerm_S t0.fKids)], .sl (List.map I path1)] (.tup [.agg [.int .i64 r.1.fOp, .int .i64 r.1.fN, .osl (List.map I r.1.fType), .osl (List.map GTerm_O r.1.fKids)], .bool r.2]) []
theorem spec_TermAt_s : ∀ p r, spec_TermAt p = some r → M_spec_TermAt p r := by
  rintro ⟨t0, path1⟩ r h
  unfold spec_TermAt at h
  show FnSound Try.prog 30 [.agg [.int .i64 t0.fOp, .int .i64 t0.fN, .sl (List.map I t0.fType), .sl (List.map GTerm_S t0.fKids)], .sl (List.map I path1)] (.tup [.agg [.int .i64 r.1.fOp, .int .i64 r.1.fN, .osl (List.map I r.1.fType), .osl (List.map GTerm_O r.1.fKids)], .bool r.2]) []
  refine FnSound.body0 tiok (fn := Try.f30) (code := B30) (by kernel_rfl) (by kernel_rfl) (by kernel_rfl) (by kernel_rfl) (nt := 38) (by kernel_rfl) (by kernel_rfl) (T := [(0, .agg [.int .i64 t0.fOp, .int .i64 t0.fN, .sl (List.map I t0.fType), .sl (List.map GTerm_S t0.fKids)]), (1, .sl (List.map I path1))]) (O := []) (by kernel_rfl) (by kernel_rfl) (fun c hc => ?_)
  refine Wp.seqN (by kernel_rfl) ?_
  refine Wp.reg tiok mix hc (by kernel_rfl) (ah := none) (rs := [some (.new 1), some (.new 2), some (.no)]) (kt := [1, 2, 4]) (ko := [1, 2]) (T' := [(1, .sl (List.map I path1)), (2, .ra 1 0), (4, .ra 2 0)]) (O' := [(1, .box [.int .i64 t0.fOp, .int .i64 t0.fN, .sl (List.map I t0.fType), .sl (List.map GTerm_S t0.fKids)]), (2, .box [.int .i64 0, .int .i64 0, .nils, .nils])]) (by kernel_rfl) trivial (by kernel_rfl) (by kernel_rfl) ?_
  refine seqQ_norm ?_
  refine Wp.seqN (by kernel_rfl) ?_
  refine Wp.seqN (by kernel_rfl) ?_
  obtain ⟨r_1_1, hr_1_1, h⟩ := bsome h
  refine Wp.reg tiok mix hc (by kernel_rfl) (ah := none) (rs := [some (.no), some (.call (.bool r_1_1) [] 1), some (.no)]) (kt := [1, 2, 4, 9]) (ko := [1, 2]) (T' := [(1, .sl (List.map I path1)), (2, .ra 1 0), (4, .ra 2 0), (9, .bool (!r_1_1))]) (O' := [(1, .box [.int .i64 t0.fOp, .int .i64 t0.fN, .sl (List.map I t0.fType), .sl (List.map GTerm_S t0.fKids)]), (2, .box [.int .i64 0, .int .i64 0, .nils, .nils])]) (by kernel_rfl) (And.intro (spec_IsWritten_s _ _ hr_1_1) (And.intro bod_58 (And.intro (Or.inl rfl : ([] : List Nat) = [] ∨ noSh (.bool r_1_1) = true) trivial))) (by kernel_rfl) (by kernel_rfl) ?_
  refine seqQ_norm ?_
  rcases itesome h with ⟨hb_1, h⟩ | ⟨hb_1, h⟩
  · refine Wp.condF (b := (!r_1_1)) (by kernel_rfl) (by kernel_rfl) (nF hb_1) ?_
    refine Wp.skipN (by kernel_rfl) ?_
    refine seqQ_norm ?_
    refine Wp.seqN (by kernel_rfl) ?_
    refine Wp.seqN (by kernel_rfl) ?_
    refine Wp.reg tiok mix hc (by kernel_rfl) (ah := none) (rs := [some (.no)]) (kt := [1, 2, 4, 6]) (ko := [1, 2]) (T' := [(1, .sl (List.map I path1)), (2, .ra 1 0), (4, .ra 2 0), (6, .int .i64 0)]) (O' := [(1, .box [.int .i64 t0.fOp, .int .i64 t0.fN, .sl (List.map I t0.fType), .sl (List.map GTerm_S t0.fKids)]), (2, .box [.int .i64 0, .int .i64 0, .nils, .nils])]) (by kernel_rfl) trivial (by kernel_rfl) (by kernel_rfl) ?_
    refine seqQ_norm ?_
    refine Wp.blockN (i := 0) (by kernel_rfl) ?_
    obtain ⟨fl, hl_15, h⟩ := bsome h
    have hL := spec_TermAt_l0_s _ _ hl_15 c hc
    refine Wp.loopN (by kernel_rfl) ?_
    rcases fl with ⟨t_11, t_12, t_13, t_14⟩ | r
    · refine WpL.into (e := (.exit 0)) (mkS [(2, .ra 1 0), (4, .ra 2 0)] [(1, .box [.int .i64 t_11, .int .i64 t_12, .sl (List.map I t_13), .sl (List.map GTerm_S t_14)]), (2, .box [.int .i64 0, .int .i64 0, .nils, .nils])]) hL ?_
      refine blockQ_hit ?_
      refine seqQ_norm ?_
      refine Wp.seqN (by kernel_rfl) ?_
      obtain ⟨r_9_1, hr_9_1, h⟩ := bsome h
      refine Wp.reg tiok mix hc (by kernel_rfl) (ah := none) (rs := [some (.no), some (.call (.agg [.int .i64 r_9_1.fOp, .int .i64 r_9_1.fN, .osl (List.map I r_9_1.fType), .osl (List.map GTerm_O r_9_1.fKids)]) [] 3), some (.no), some (.no)]) (kt := [4, 5]) (ko := [2, 3, 4]) (T' := [(4, .ra 2 0), (5, .bool true)]) (O' := [(2, .box [.int .i64 r_9_1.fOp, .int .i64 r_9_1.fN, .rs 3, .rs 4]), (3, .arr (List.map I r_9_1.fType)), (4, .arr (List.map GTerm_O r_9_1.fKids))]) (by kernel_rfl) (And.intro (spec_l2Shift_s _ _ hr_9_1) (And.intro bod_71 (And.intro (Or.inl rfl : ([] : List Nat) = [] ∨ noSh (.agg [.int .i64 r_9_1.fOp, .int .i64 r_9_1.fN, .osl (List.map I r_9_1.fType), .osl (List.map GTerm_O r_9_1.fKids)]) = true) trivial))) (by kernel_rfl) (by kernel_rfl) ?_
      refine seqQ_norm ?_
      refine Wp.retN (by kernel_rfl) ?_
      obtain rfl := Option.some.inj h
      exact RetQ.ret (fl := [true, true]) (by kernel_rfl)
    · refine WpL.mono hL ?_
      rintro _ _ ⟨rfl, hfin⟩
      refine blockQ_ret ?_
      refine seqQ_ret ?_
      obtain rfl := Option.some.inj h
      exact ⟨.inl rfl, hfin⟩
  · refine Wp.condT (b := (!r_1_1)) (by kernel_rfl) (by kernel_rfl) (nT hb_1) ?_
    refine Wp.seqN (by kernel_rfl) ?_
    refine Wp.reg tiok mix hc (by kernel_rfl) (ah := none) (rs := [some (.no), some (.no), some (.no)]) (kt := [4, 5]) (ko := [2]) (T' := [(4, .ra 2 0), (5, .bool false)]) (O' := [(2, .box [.int .i64 0, .int .i64 0, .nils, .nils])]) (by kernel_rfl) trivial (by kernel_rfl) (by kernel_rfl) ?_
    refine seqQ_norm ?_
    refine Wp.retN (by kernel_rfl) ?_
    refine seqQ_ret ?_
    obtain rfl := Option.some.inj h
    exact RetQ.ret (fl := [true, true]) (by kernel_rfl)
def spec_l4Set_F1 (c : Ctx) (t0 : GTerm) (r_3_6 : List Int) : (List GTerm) → Exit → AState → Prop
  | out_16 => Into c (.exit 0) (mkS [(6, .ra 3 0), (7, .ra 7 0)] [(3, .box [.int .i64 0, .int .i64 0, .nils, .nils]), (6, .arr (List.map I r_3_6)), (7, .box [.int .i64 t0.fOp, .int .i64 t0.fN, .rs 6, .rs 16]), (16, .arr (List.map GTerm_O out_16))])
mutual
def spec_l4Set (p : GTerm × (List Int) × GTerm) : Option (GTerm) :=
  match p with
  | (t0, path1, u2) =>
    if ((path1.length : Int) == 0) = true then
      (spec_l2Shift (u2, 0, 0)) >>= fun r_2_1 =>
      some r_2_1
    else
      (spec_l1Copy t0.fType) >>= fun r_3_6 =>
      (spec_l4Set_l0 (t0, path1, u2, r_3_6, [], 0)) >>= fun out_16 =>
      some (GTerm.mk t0.fOp t0.fN r_3_6 out_16)
  partial_fixpoint
def spec_l4Set_l0 (p : GTerm × (List Int) × GTerm × (List Int) × (List GTerm) × Int) : Option ((List GTerm)) :=
  match p with
  | (t0, path1, u2, r_3_6, out_11, k_6) =>
    if (decide (k_6 < (t0.fKids.length : Int))) = true then
      (idx path1 0) >>= fun e_7_2 =>
      (
        if (k_6 == e_7_2) = true then
          (idx t0.fKids k_6) >>= fun e_8_5 =>
          (cut path1 (some 1) none none) >>= fun c_8_8 =>
          (spec_l4Set (e_8_5, c_8_8, u2)) >>= fun r_8_10 =>
          (fits (out_11.length + [r_8_10].length) 64) >>= fun _ =>
          some ((out_11 ++ [r_8_10]))
        else
          (idx t0.fKids k_6) >>= fun e_9_5 =>
          (spec_l2Shift (e_9_5, 0, 0)) >>= fun r_9_7 =>
          (fits (out_11.length + [r_9_7].length) 64) >>= fun _ =>
          some ((out_11 ++ [r_9_7]))
      ) >>= fun out_14 =>
      spec_l4Set_l0 (t0, path1, u2, r_3_6, out_14, (wr (k_6 + 1)))
    else
      some (out_11)
  partial_fixpoint
end
def M_spec_l4Set (p : GTerm × (List Int) × GTerm) (r : GTerm) : Prop :=
  match p with
  | (t0, path1, u2) => FnSound Try.prog 80 [.agg [.int .i64 t0.fOp, .int .i64 t0.fN, .sl (List.map I t0.fType), .sl (List.map GTerm_S t0.fKids)], .sl (List.map I path1), .agg [.int .i64 u2.fOp, .int .i64 u2.fN, .sl (List.map I u2.fType), .sl (List.map GTerm_S u2.fKids)]] (.agg [.int .i64 r.fOp, .int .i64 r.fN, .osl (List.map I r.fType), .osl (List.map GTerm_O r.fKids)]) []
def M_spec_l4Set_l0 (p : GTerm × (List Int) × GTerm × (List Int) × (List GTerm) × Int) (fl : (List GTerm)) : Prop :=
  match p with
  | (t0, path1, u2, r_3_6, out_11, k_6) => ∀ c : Ctx, c.nt = 60 → WpL Try.prog c (cl (cl (cr (cl (cr (cr (cr B80))))))) (spec_l4Set_F1 c t0 r_3_6 fl) (mkS [(1, .sl (List.map I path1)), (3, .ra 1 0), (5, .ra 2 0), (6, .ra 3 0), (7, .ra 7 0), (8, .int .i64 k_6)] [(1, .box [.int .i64 t0.fOp, .int .i64 t0.fN, .sl (List.map I t0.fType), .sl (List.map GTerm_S t0.fKids)]), (2, .box [.int .i64 u2.fOp, .int .i64 u2.fN, .sl (List.map I u2.fType), .sl (List.map GTerm_S u2.fKids)]), (3, .box [.int .i64 0, .int .i64 0, .nils, .nils]), (6, .arr (List.map I r_3_6)), (7, .box [.int .i64 t0.fOp, .int .i64 t0.fN, .rs 6, .rs 16]), (16, .arr (List.map GTerm_O out_11))])
theorem spec_l4Set_all : (∀ p r, spec_l4Set p = some r → M_spec_l4Set p r) ∧ (∀ p r, spec_l4Set_l0 p = some r → M_spec_l4Set_l0 p r) := by
  refine spec_l4Set.mutual_partial_correctness M_spec_l4Set M_spec_l4Set_l0 ?_ ?_
  · rintro spec_l4Set_l0_f spec_l4Set_l0_ih ⟨t0, path1, u2⟩ r h
    show FnSound Try.prog 80 [.agg [.int .i64 t0.fOp, .int .i64 t0.fN, .sl (List.map I t0.fType), .sl (List.map GTerm_S t0.fKids)], .sl (List.map I path1), .agg [.int .i64 u2.fOp, .int .i64 u2.fN, .sl (List.map I u2.fType), .sl (List.map GTerm_S u2.fKids)]] (.agg [.int .i64 r.fOp, .int .i64 r.fN, .osl (List.map I r.fType), .osl (List.map GTerm_O r.fKids)]) []
    refine FnSound.body0 tiok (fn := Try.f80) (code := B80) (by kernel_rfl) (by kernel_rfl) (by kernel_rfl) (by kernel_rfl) (nt := 60) (by kernel_rfl) (by kernel_rfl) (T := [(0, .agg [.int .i64 t0.fOp, .int .i64 t0.fN, .sl (List.map I t0.fType), .sl (List.map GTerm_S t0.fKids)]), (1, .sl (List.map I path1)), (2, .agg [.int .i64 u2.fOp, .int .i64 u2.fN, .sl (List.map I u2.fType), .sl (List.map GTerm_S u2.fKids)])]) (O := []) (by kernel_rfl) (by kernel_rfl) (fun c hc => ?_)
    refine Wp.seqN (by kernel_rfl) ?_
    refine Wp.reg tiok mix hc (by kernel_rfl) (ah := none) (rs := [some (.new 1), some (.new 2), some (.new 3)]) (kt := [1, 3, 5, 6]) (ko := [1, 2, 3]) (T' := [(1, .sl (List.map I path1)), (3, .ra 1 0), (5, .ra 2 0), (6, .ra 3 0)]) (O' := [(1, .box [.int .i64 t0.fOp, .int .i64 t0.fN, .sl (List.map I t0.fType), .sl (List.map GTerm_S t0.fKids)]), (2, .box [.int .i64 u2.fOp, .int .i64 u2.fN, .sl (List.map I u2.fType), .sl (List.map GTerm_S u2.fKids)]), (3, .box [.int .i64 0, .int .i64 0, .nils, .nils])]) (by kernel_rfl) trivial (by kernel_rfl) (by kernel_rfl) ?_
    refine seqQ_norm ?_
    refine Wp.seqN (by kernel_rfl) ?_
    refine Wp.seqN (by kernel_rfl) ?_
    refine Wp.reg tiok mix hc (by kernel_rfl) (ah := none) (rs := [some (.no), some (.eqv (.no) ⟨[(10, .int .i64 (path1.length : Int))], [], []⟩), some (.no)]) (kt := [1, 3, 5, 6, 11]) (ko := [1, 2, 3]) (T' := [(1, .sl (List.map I path1)), (3, .ra 1 0), (5, .ra 2 0), (6, .ra 3 0), (11, .bool ((path1.length : Int) == 0))]) (O' := [(1, .box [.int .i64 t0.fOp, .int .i64 t0.fN, .sl (List.map I t0.fType), .sl (List.map GTerm_S t0.fKids)]), (2, .box [.int .i64 u2.fOp, .int .i64 u2.fN, .sl (List.map I u2.fType), .sl (List.map GTerm_S u2.fKids)]), (3, .box [.int .i64 0, .int .i64 0, .nils, .nils])]) (by kernel_rfl) (And.intro (lenT (d := 10) I path1) trivial) (by kernel_rfl) (by kernel_rfl) ?_
    refine seqQ_norm ?_
    rcases itesome h with ⟨hb_1, h⟩ | ⟨hb_1, h⟩
    · refine Wp.condT (b := ((path1.length : Int) == 0)) (by kernel_rfl) (by kernel_rfl) hb_1 ?_
      refine Wp.seqN (by kernel_rfl) ?_
      obtain ⟨r_2_1, hr_2_1, h⟩ := bsome h
      refine Wp.reg tiok mix hc (by kernel_rfl) (ah := none) (rs := [some (.no), some (.call (.agg [.int .i64 r_2_1.fOp, .int .i64 r_2_1.fN, .osl (List.map I r_2_1.fType), .osl (List.map GTerm_O r_2_1.fKids)]) [] 4), some (.no)]) (kt := [6]) (ko := [3, 4, 5]) (T' := [(6, .ra 3 0)]) (O' := [(3, .box [.int .i64 r_2_1.fOp, .int .i64 r_2_1.fN, .rs 4, .rs 5]), (4, .arr (List.map I r_2_1.fType)), (5, .arr (List.map GTerm_O r_2_1.fKids))]) (by kernel_rfl) (And.intro (spec_l2Shift_s _ _ hr_2_1) (And.intro bod_71 (And.intro (Or.inl rfl : ([] : List Nat) = [] ∨ noSh (.agg [.int .i64 r_2_1.fOp, .int .i64 r_2_1.fN, .osl (List.map I r_2_1.fType), .osl (List.map GTerm_O r_2_1.fKids)]) = true) trivial))) (by kernel_rfl) (by kernel_rfl) ?_
      refine seqQ_norm ?_
      refine Wp.retN (by kernel_rfl) ?_
      refine seqQ_ret ?_
      obtain rfl := Option.some.inj h
      exact RetQ.ret (fl := [true]) (by kernel_rfl)
    · refine Wp.condF (b := ((path1.length : Int) == 0)) (by kernel_rfl) (by kernel_rfl) hb_1 ?_
      refine Wp.skipN (by kernel_rfl) ?_
      refine seqQ_norm ?_
      refine Wp.seqN (by kernel_rfl) ?_
      obtain ⟨r_3_6, hr_3_6, h⟩ := bsome h
      refine Wp.reg tiok mix hc (by kernel_rfl) (ah := (some [[], [0], [], [2], [], [4], [4, 5], [0, 1, 2, 3, 4, 5, 6], [], [0, 1, 2, 3, 4, 5, 6, 7, 8]])) (rs := [some (.no), some (.no), some (.no), some (.no), some (.no), some (.no), some (.call (.osl (List.map I r_3_6)) [] 6), some (.no), some (.new 7), some (.no)]) (kt := [1, 3, 5, 6, 7]) (ko := [1, 2, 3, 6, 7]) (T' := [(1, .sl (List.map I path1)), (3, .ra 1 0), (5, .ra 2 0), (6, .ra 3 0), (7, .ra 7 0)]) (O' := [(1, .box [.int .i64 t0.fOp, .int .i64 t0.fN, .sl (List.map I t0.fType), .sl (List.map GTerm_S t0.fKids)]), (2, .box [.int .i64 u2.fOp, .int .i64 u2.fN, .sl (List.map I u2.fType), .sl (List.map GTerm_S u2.fKids)]), (3, .box [.int .i64 0, .int .i64 0, .nils, .nils]), (6, .arr (List.map I r_3_6)), (7, .box [.int .i64 t0.fOp, .int .i64 t0.fN, .rs 6, .nils])]) (by kernel_rfl) (And.intro (spec_l1Copy_s _ _ hr_3_6) (And.intro bod_103 (And.intro (Or.inl rfl : ([] : List Nat) = [] ∨ noSh (.osl (List.map I r_3_6)) = true) trivial))) (by kernel_rfl) (by kernel_rfl) ?_
      refine seqQ_norm ?_
      refine Wp.seqN (by kernel_rfl) ?_
      refine Wp.seqN (by kernel_rfl) ?_
      refine Wp.reg tiok mix hc (by kernel_rfl) (ah := none) (rs := [some (.no)]) (kt := [1, 3, 5, 6, 7, 8]) (ko := [1, 2, 3, 6, 7]) (T' := [(1, .sl (List.map I path1)), (3, .ra 1 0), (5, .ra 2 0), (6, .ra 3 0), (7, .ra 7 0), (8, .int .i64 0)]) (O' := [(1, .box [.int .i64 t0.fOp, .int .i64 t0.fN, .sl (List.map I t0.fType), .sl (List.map GTerm_S t0.fKids)]), (2, .box [.int .i64 u2.fOp, .int .i64 u2.fN, .sl (List.map I u2.fType), .sl (List.map GTerm_S u2.fKids)]), (3, .box [.int .i64 0, .int .i64 0, .nils, .nils]), (6, .arr (List.map I r_3_6)), (7, .box [.int .i64 t0.fOp, .int .i64 t0.fN, .rs 6, .nils])]) (by kernel_rfl) trivial (by kernel_rfl) (by kernel_rfl) ?_
      refine seqQ_norm ?_
      refine Wp.blockN (i := 0) (by kernel_rfl) ?_
      obtain ⟨out_16, hl_17, h⟩ := bsome h
      have hL := spec_l4Set_l0_ih _ _ hl_17 c hc
      refine Wp.loopN (by kernel_rfl) (WpL.view (fun a w hv => SRx.renL [(16, 33)] (SRx.nilBL 7 3 33 [.int .i64 t0.fOp, .int .i64 t0.fN, .rs 6, .nils] hv (by kernel_rfl) (by kernel_rfl) (by kernel_rfl)) (by kernel_rfl) (by kernel_rfl) (by kernel_rfl)) (?_ : WpL _ c _ _ (mkS [(1, .sl (List.map I path1)), (3, .ra 1 0), (5, .ra 2 0), (6, .ra 3 0), (7, .ra 7 0), (8, .int .i64 0)] [(1, .box [.int .i64 t0.fOp, .int .i64 t0.fN, .sl (List.map I t0.fType), .sl (List.map GTerm_S t0.fKids)]), (2, .box [.int .i64 u2.fOp, .int .i64 u2.fN, .sl (List.map I u2.fType), .sl (List.map GTerm_S u2.fKids)]), (3, .box [.int .i64 0, .int .i64 0, .nils, .nils]), (6, .arr (List.map I r_3_6)), (7, .box [.int .i64 t0.fOp, .int .i64 t0.fN, .rs 6, .rs 16]), (16, .arr (List.map GTerm_O []))])))
      · refine WpL.into (e := (.exit 0)) (mkS [(6, .ra 3 0), (7, .ra 7 0)] [(3, .box [.int .i64 0, .int .i64 0, .nils, .nils]), (6, .arr (List.map I r_3_6)), (7, .box [.int .i64 t0.fOp, .int .i64 t0.fN, .rs 6, .rs 16]), (16, .arr (List.map GTerm_O out_16))]) hL ?_
        refine blockQ_hit ?_
        refine seqQ_norm ?_
        refine Wp.seqN (by kernel_rfl) ?_
        refine Wp.reg tiok mix hc (by kernel_rfl) (ah := none) (rs := [some (.no), some (.no)]) (kt := [6]) (ko := [3, 6, 16]) (T' := [(6, .ra 3 0)]) (O' := [(3, .box [.int .i64 t0.fOp, .int .i64 t0.fN, .rs 6, .rs 16]), (6, .arr (List.map I r_3_6)), (16, .arr (List.map GTerm_O out_16))]) (by kernel_rfl) trivial (by kernel_rfl) (by kernel_rfl) ?_
        refine seqQ_norm ?_
        refine Wp.retN (by kernel_rfl) ?_
        obtain rfl := Option.some.inj h
        exact RetQ.ret (fl := [true]) (by kernel_rfl)
  · rintro spec_l4Set_f spec_l4Set_l0_f spec_l4Set_ih spec_l4Set_l0_ih ⟨t0, path1, u2, r_3_6, out_11, k_6⟩ r h
    intro c hc
    show WpL Try.prog c (cl (cl (cr (cl (cr (cr (cr B80))))))) (spec_l4Set_F1 c t0 r_3_6 r) (mkS [(1, .sl (List.map I path1)), (3, .ra 1 0), (5, .ra 2 0), (6, .ra 3 0), (7, .ra 7 0), (8, .int .i64 k_6)] [(1, .box [.int .i64 t0.fOp, .int .i64 t0.fN, .sl (List.map I t0.fType), .sl (List.map GTerm_S t0.fKids)]), (2, .box [.int .i64 u2.fOp, .int .i64 u2.fN, .sl (List.map I u2.fType), .sl (List.map GTerm_S u2.fKids)]), (3, .box [.int .i64 0, .int .i64 0, .nils, .nils]), (6, .arr (List.map I r_3_6)), (7, .box [.int .i64 t0.fOp, .int .i64 t0.fN, .rs 6, .rs 16]), (16, .arr (List.map GTerm_O out_11))])
    refine WpL.step ?_
    refine Wp.seqN (by kernel_rfl) ?_
    refine Wp.seqN (by kernel_rfl) ?_
    refine Wp.reg tiok mix hc (by kernel_rfl) (ah := none) (rs := [some (.no), some (.no), some (.no), some (.eqv (.no) ⟨[(25, .int .i64 (t0.fKids.length : Int))], [], []⟩), some (.no)]) (kt := [1, 3, 5, 6, 7, 8, 26]) (ko := [1, 2, 3, 6, 7, 16]) (T' := [(1, .sl (List.map I path1)), (3, .ra 1 0), (5, .ra 2 0), (6, .ra 3 0), (7, .ra 7 0), (8, .int .i64 k_6), (26, .bool (decide (k_6 < (t0.fKids.length : Int))))]) (O' := [(1, .box [.int .i64 t0.fOp, .int .i64 t0.fN, .sl (List.map I t0.fType), .sl (List.map GTerm_S t0.fKids)]), (2, .box [.int .i64 u2.fOp, .int .i64 u2.fN, .sl (List.map I u2.fType), .sl (List.map GTerm_S u2.fKids)]), (3, .box [.int .i64 0, .int .i64 0, .nils, .nils]), (6, .arr (List.map I r_3_6)), (7, .box [.int .i64 t0.fOp, .int .i64 t0.fN, .rs 6, .rs 16]), (16, .arr (List.map GTerm_O out_11))]) (by kernel_rfl) (And.intro (lenT (d := 25) GTerm_S t0.fKids) trivial) (by kernel_rfl) (by kernel_rfl) ?_
    refine seqQ_norm ?_
    rcases itesome h with ⟨hb_12, h⟩ | ⟨hb_12, h⟩
    · refine Wp.condT (b := (decide (k_6 < (t0.fKids.length : Int)))) (by kernel_rfl) (by kernel_rfl) hb_12 ?_
      refine Wp.skipN (by kernel_rfl) ?_
      refine seqQ_norm ?_
      refine Wp.seqN (by kernel_rfl) ?_
      refine Wp.blockN (i := 1) (by kernel_rfl) ?_
      refine Wp.seqN (by kernel_rfl) ?_
      obtain ⟨e_7_2, hi_7_2, h⟩ := bsome h
      refine Wp.reg tiok mix hc (by kernel_rfl) (ah := none) (rs := [some (.no), some (.no), some (.el (.int .i64 e_7_2)), some (.no), some (.no)]) (kt := [1, 3, 5, 6, 7, 8, 33]) (ko := [1, 2, 3, 6, 7, 16]) (T' := [(1, .sl (List.map I path1)), (3, .ra 1 0), (5, .ra 2 0), (6, .ra 3 0), (7, .ra 7 0), (8, .int .i64 k_6), (33, .bool (k_6 == e_7_2))]) (O' := [(1, .box [.int .i64 t0.fOp, .int .i64 t0.fN, .sl (List.map I t0.fType), .sl (List.map GTerm_S t0.fKids)]), (2, .box [.int .i64 u2.fOp, .int .i64 u2.fN, .sl (List.map I u2.fType), .sl (List.map GTerm_S u2.fKids)]), (3, .box [.int .i64 0, .int .i64 0, .nils, .nils]), (6, .arr (List.map I r_3_6)), (7, .box [.int .i64 t0.fOp, .int .i64 t0.fN, .rs 6, .rs 16]), (16, .arr (List.map GTerm_O out_11))]) (by kernel_rfl) (And.intro (idx_sl (enc := I) (x := .int .i64 e_7_2) hi_7_2 (eq_I e_7_2)) trivial) (by kernel_rfl) (by kernel_rfl) ?_
      refine seqQ_norm ?_
      obtain ⟨out_14, hj_15, h⟩ := bsome h
      refine Wp.into (x := .normal) (mkS [(1, .sl (List.map I path1)), (3, .ra 1 0), (5, .ra 2 0), (6, .ra 3 0), (7, .ra 7 0), (8, .int .i64 k_6)] [(1, .box [.int .i64 t0.fOp, .int .i64 t0.fN, .sl (List.map I t0.fType), .sl (List.map GTerm_S t0.fKids)]), (2, .box [.int .i64 u2.fOp, .int .i64 u2.fN, .sl (List.map I u2.fType), .sl (List.map GTerm_S u2.fKids)]), (3, .box [.int .i64 0, .int .i64 0, .nils, .nils]), (6, .arr (List.map I r_3_6)), (7, .box [.int .i64 t0.fOp, .int .i64 t0.fN, .rs 6, .rs 28]), (28, .arr (List.map GTerm_O out_14))]) ?_ ?_
      · replace h := hj_15
        rcases itesome h with ⟨hb_13, h⟩ | ⟨hb_13, h⟩
        · refine Wp.condT (b := (k_6 == e_7_2)) (by kernel_rfl) (by kernel_rfl) hb_13 ?_
          obtain ⟨e_8_5, hi_8_5, h⟩ := bsome h
          obtain ⟨c_8_8, hs_8_8, h⟩ := bsome h
          obtain ⟨r_8_10, hr_8_10, h⟩ := bsome h
          obtain ⟨_, hk_8_12, h⟩ := bsome h
          refine Wp.reg tiok mix hc (by kernel_rfl) (ah := (some [[], [0], [], [2], [], [2, 3, 4], [2, 3, 4, 5], [], [7], [], [2, 3, 4, 5, 6, 7, 8, 9], [2, 3, 4, 5, 6, 7, 8, 9, 10], [0, 1, 2, 3, 4, 5, 6, 7, 8, 9, 10, 11], [0, 1, 2, 3, 4, 5, 6, 7, 8, 9, 10, 11, 12], [0, 1, 2, 3, 4, 5, 6, 7, 8, 9, 10, 11, 12, 13]])) (rs := [some (.no), some (.no), some (.no), some (.no), some (.no), some (.el (.agg [.int .i64 e_8_5.fOp, .int .i64 e_8_5.fN, .sl (List.map I e_8_5.fType), .sl (List.map GTerm_S e_8_5.fKids)])), some (.no), some (.no), some (.eqv (.no) ⟨[(42, .sl (List.map I c_8_8))], [], []⟩), some (.no), some (.call (.agg [.int .i64 r_8_10.fOp, .int .i64 r_8_10.fN, .osl (List.map I r_8_10.fType), .osl (List.map GTerm_O r_8_10.fKids)]) [] 25), some (.eqv (.mk 27 true) ⟨[(45, .rs 27)], [(27, some (.arr (List.map GTerm_O [r_8_10]))), (25, none), (26, none)], [27]⟩), some (.eqv (.mk 28 true) ⟨[(46, .rs 28)], [(28, some (.arr (List.map GTerm_O (out_11 ++ [r_8_10])))), (16, none), (27, none)], [28]⟩), some (.no), some (.no)]) (kt := [1, 3, 5, 6, 7, 8]) (ko := [1, 2, 3, 6, 7, 28]) (T' := [(1, .sl (List.map I path1)), (3, .ra 1 0), (5, .ra 2 0), (6, .ra 3 0), (7, .ra 7 0), (8, .int .i64 k_6)]) (O' := [(1, .box [.int .i64 t0.fOp, .int .i64 t0.fN, .sl (List.map I t0.fType), .sl (List.map GTerm_S t0.fKids)]), (2, .box [.int .i64 u2.fOp, .int .i64 u2.fN, .sl (List.map I u2.fType), .sl (List.map GTerm_S u2.fKids)]), (3, .box [.int .i64 0, .int .i64 0, .nils, .nils]), (6, .arr (List.map I r_3_6)), (7, .box [.int .i64 t0.fOp, .int .i64 t0.fN, .rs 6, .rs 28]), (28, .arr (List.map GTerm_O (out_11 ++ [r_8_10])))]) (by kernel_rfl) (And.intro (idx_sl (enc := GTerm_S) (x := .agg [.int .i64 e_8_5.fOp, .int .i64 e_8_5.fN, .sl (List.map I e_8_5.fType), .sl (List.map GTerm_S e_8_5.fKids)]) hi_8_5 (eq_GTerm_S e_8_5)) (And.intro (cut_wr (d := 42) I hs_8_8) (And.intro (cut_ob (enc := I) (sz := 1) sz_I hs_8_8) (And.intro (spec_l4Set_ih _ _ hr_8_10) (And.intro bod_80 (And.intro (Or.inl rfl : ([] : List Nat) = [] ∨ noSh (.agg [.int .i64 r_8_10.fOp, .int .i64 r_8_10.fN, .osl (List.map I r_8_10.fType), .osl (List.map GTerm_O r_8_10.fKids)]) = true) (And.intro (congrArg (fun z => (⟨[(45, .rs 27)], [(27, some (.arr z)), (25, none), (26, none)], [27]⟩ : Wr)) ((rows1 (eq_GTerm_O r_8_10) rows0) : [AV.agg [.int .i64 r_8_10.fOp, .int .i64 r_8_10.fN, AV.osl (List.map I r_8_10.fType), AV.osl (List.map GTerm_O r_8_10.fKids)]] = List.map GTerm_O [r_8_10])) (And.intro (congrArg (fun z => (⟨[(46, .rs 28)], [(28, some (.arr z)), (16, none), (27, none)], [28]⟩ : Wr)) ((List.map_append).symm : (List.map GTerm_O out_11) ++ (List.map GTerm_O [r_8_10]) = List.map GTerm_O (out_11 ++ [r_8_10]))) (And.intro (app_ob (enc1 := GTerm_O) (enc2 := GTerm_O) (e1 := out_11) (e2 := [r_8_10]) (sz := 4) ek_GTerm_O ek_GTerm_O hk_8_12) trivial))))))))) (by kernel_rfl) (by kernel_rfl) ?_
          obtain rfl := Option.some.inj h
          exact Into.mk
        · refine Wp.condF (b := (k_6 == e_7_2)) (by kernel_rfl) (by kernel_rfl) hb_13 ?_
          obtain ⟨e_9_5, hi_9_5, h⟩ := bsome h
          obtain ⟨r_9_7, hr_9_7, h⟩ := bsome h
          obtain ⟨_, hk_9_9, h⟩ := bsome h
          refine Wp.reg tiok mix hc (by kernel_rfl) (ah := (some [[], [0], [], [2], [], [2, 3, 4], [2, 3, 4, 5], [2, 3, 4, 5, 6], [2, 3, 4, 5, 6, 7], [0, 1, 2, 3, 4, 5, 6, 7, 8], [0, 1, 2, 3, 4, 5, 6, 7, 8, 9], [0, 1, 2, 3, 4, 5, 6, 7, 8, 9, 10]])) (rs := [some (.no), some (.no), some (.no), some (.no), some (.no), some (.el (.agg [.int .i64 e_9_5.fOp, .int .i64 e_9_5.fN, .sl (List.map I e_9_5.fType), .sl (List.map GTerm_S e_9_5.fKids)])), some (.no), some (.call (.agg [.int .i64 r_9_7.fOp, .int .i64 r_9_7.fN, .osl (List.map I r_9_7.fType), .osl (List.map GTerm_O r_9_7.fKids)]) [] 29), some (.eqv (.mk 31 true) ⟨[(56, .rs 31)], [(31, some (.arr (List.map GTerm_O [r_9_7]))), (29, none), (30, none)], [31]⟩), some (.eqv (.mk 32 true) ⟨[(57, .rs 32)], [(32, some (.arr (List.map GTerm_O (out_11 ++ [r_9_7])))), (16, none), (31, none)], [32]⟩), some (.no), some (.no)]) (kt := [1, 3, 5, 6, 7, 8]) (ko := [1, 2, 3, 6, 7, 32]) (T' := [(1, .sl (List.map I path1)), (3, .ra 1 0), (5, .ra 2 0), (6, .ra 3 0), (7, .ra 7 0), (8, .int .i64 k_6)]) (O' := [(1, .box [.int .i64 t0.fOp, .int .i64 t0.fN, .sl (List.map I t0.fType), .sl (List.map GTerm_S t0.fKids)]), (2, .box [.int .i64 u2.fOp, .int .i64 u2.fN, .sl (List.map I u2.fType), .sl (List.map GTerm_S u2.fKids)]), (3, .box [.int .i64 0, .int .i64 0, .nils, .nils]), (6, .arr (List.map I r_3_6)), (7, .box [.int .i64 t0.fOp, .int .i64 t0.fN, .rs 6, .rs 32]), (32, .arr (List.map GTerm_O (out_11 ++ [r_9_7])))]) (by kernel_rfl) (And.intro (idx_sl (enc := GTerm_S) (x := .agg [.int .i64 e_9_5.fOp, .int .i64 e_9_5.fN, .sl (List.map I e_9_5.fType), .sl (List.map GTerm_S e_9_5.fKids)]) hi_9_5 (eq_GTerm_S e_9_5)) (And.intro (spec_l2Shift_s _ _ hr_9_7) (And.intro bod_71 (And.intro (Or.inl rfl : ([] : List Nat) = [] ∨ noSh (.agg [.int .i64 r_9_7.fOp, .int .i64 r_9_7.fN, .osl (List.map I r_9_7.fType), .osl (List.map GTerm_O r_9_7.fKids)]) = true) (And.intro (congrArg (fun z => (⟨[(56, .rs 31)], [(31, some (.arr z)), (29, none), (30, none)], [31]⟩ : Wr)) ((rows1 (eq_GTerm_O r_9_7) rows0) : [AV.agg [.int .i64 r_9_7.fOp, .int .i64 r_9_7.fN, AV.osl (List.map I r_9_7.fType), AV.osl (List.map GTerm_O r_9_7.fKids)]] = List.map GTerm_O [r_9_7])) (And.intro (congrArg (fun z => (⟨[(57, .rs 32)], [(32, some (.arr z)), (16, none), (31, none)], [32]⟩ : Wr)) ((List.map_append).symm : (List.map GTerm_O out_11) ++ (List.map GTerm_O [r_9_7]) = List.map GTerm_O (out_11 ++ [r_9_7]))) (And.intro (app_ob (enc1 := GTerm_O) (enc2 := GTerm_O) (e1 := out_11) (e2 := [r_9_7]) (sz := 4) ek_GTerm_O ek_GTerm_O hk_9_9) trivial))))))) (by kernel_rfl) (by kernel_rfl) ?_
          obtain rfl := Option.some.inj h
          exact Into.view (fun a w hv => SRx.renL [(28, 32)] hv (by kernel_rfl) (by kernel_rfl) (by kernel_rfl))
      · clear hj_15
        refine blockQ_norm ?_
        refine seqQ_norm ?_
        refine Wp.reg tiok mix hc (by kernel_rfl) (ah := none) (rs := [some (.no), some (.no), some (.no)]) (kt := [1, 3, 5, 6, 7, 8]) (ko := [1, 2, 3, 6, 7, 28]) (T' := [(1, .sl (List.map I path1)), (3, .ra 1 0), (5, .ra 2 0), (6, .ra 3 0), (7, .ra 7 0), (8, .int .i64 (wr (k_6 + 1)))]) (O' := [(1, .box [.int .i64 t0.fOp, .int .i64 t0.fN, .sl (List.map I t0.fType), .sl (List.map GTerm_S t0.fKids)]), (2, .box [.int .i64 u2.fOp, .int .i64 u2.fN, .sl (List.map I u2.fType), .sl (List.map GTerm_S u2.fKids)]), (3, .box [.int .i64 0, .int .i64 0, .nils, .nils]), (6, .arr (List.map I r_3_6)), (7, .box [.int .i64 t0.fOp, .int .i64 t0.fN, .rs 6, .rs 28]), (28, .arr (List.map GTerm_O out_14))]) (by kernel_rfl) trivial (by kernel_rfl) (by kernel_rfl) ?_
        refine loopQ_norm ?_
        exact WpL.view (fun a w hv => SRx.renL [(16, 28)] hv (by kernel_rfl) (by kernel_rfl) (by kernel_rfl)) (spec_l4Set_l0_ih _ _ h c hc)
    · refine Wp.condF (b := (decide (k_6 < (t0.fKids.length : Int)))) (by kernel_rfl) (by kernel_rfl) hb_12 ?_
      refine Wp.exitN (i := 0) (by kernel_rfl) ?_
      refine seqQ_exit ?_
      refine loopQ_exit ?_
      obtain rfl := Option.some.inj h
      exact Into.view (fun a w hv => SRx.renL [] hv (by kernel_rfl) (by kernel_rfl) (by kernel_rfl))
theorem spec_l4Set_s : ∀ p r, spec_l4Set p = some r → M_spec_l4Set p r := spec_l4Set_all.1
theorem spec_l4Set_l0_s : ∀ p r, spec_l4Set_l0 p = some r → M_spec_l4Set_l0 p r := spec_l4Set_all.2
def spec_ReplaceAt (p : GTerm × (List Int) × GTerm) : Option (GTerm × Bool) :=
  match p with
  | (t0, path1, u2) =>
    (spec_TermAt (t0, path1)) >>= fun (r_1_2_0, r_1_2_1) =>
    (
      if r_1_2_1 = true then
        (spec_l2Left (u2, 400)) >>= fun r_2_4 =>
        some ((decide (r_2_4 < 0)))
      else
        some (true)
    ) >>= fun v_1 =>
    if v_1 = true then
      some ((GTerm.mk 0 0 [] []), false)
    else
      (spec_l4Set (t0, path1, u2)) >>= fun r_4_3 =>
      (spec_IsWritten r_4_3) >>= fun r_5_1 =>
      if r_5_1 = true then
        some (r_4_3, true)
      else
        some ((GTerm.mk 0 0 [] []), false)
def M_spec_ReplaceAt (p : GTerm × (List Int) × GTerm) (r : GTerm × Bool) : Prop :=
  match p with
  | (t0, path1, u2) => FnSound Try.prog 42 [.agg [.int .i64 t0.fOp, .int .i64 t0.fN, .sl (List.map I t0.fType), .sl (List.map GTerm_S t0.fKids)], .sl (List.map I path1), .agg [.int .i64 u2.fOp, .int .i64 u2.fN, .sl (List.map I u2.fType), .sl (List.map GTerm_S u2.fKids)]] (.tup [.agg [.int .i64 r.1.fOp, .int .i64 r.1.fN, .osl (List.map I r.1.fType), .osl (List.map GTerm_O r.1.fKids)], .bool r.2]) []
theorem spec_ReplaceAt_s : ∀ p r, spec_ReplaceAt p = some r → M_spec_ReplaceAt p r := by
  rintro ⟨t0, path1, u2⟩ r h
  unfold spec_ReplaceAt at h
  show FnSound Try.prog 42 [.agg [.int .i64 t0.fOp, .int .i64 t0.fN, .sl (List.map I t0.fType), .sl (List.map GTerm_S t0.fKids)], .sl (List.map I path1), .agg [.int .i64 u2.fOp, .int .i64 u2.fN, .sl (List.map I u2.fType), .sl (List.map GTerm_S u2.fKids)]] (.tup [.agg [.int .i64 r.1.fOp, .int .i64 r.1.fN, .osl (List.map I r.1.fType), .osl (List.map GTerm_O r.1.fKids)], .bool r.2]) []
  refine FnSound.body0 tiok (fn := Try.f42) (code := B42) (by kernel_rfl) (by kernel_rfl) (by kernel_rfl) (by kernel_rfl) (nt := 34) (by kernel_rfl) (by kernel_rfl) (T := [(0, .agg [.int .i64 t0.fOp, .int .i64 t0.fN, .sl (List.map I t0.fType), .sl (List.map GTerm_S t0.fKids)]), (1, .sl (List.map I path1)), (2, .agg [.int .i64 u2.fOp, .int .i64 u2.fN, .sl (List.map I u2.fType), .sl (List.map GTerm_S u2.fKids)])]) (O := []) (by kernel_rfl) (by kernel_rfl) (fun c hc => ?_)
  refine Wp.seqN (by kernel_rfl) ?_
  refine Wp.reg tiok mix hc (by kernel_rfl) (ah := none) (rs := [some (.new 1), some (.new 2), some (.new 3), some (.no)]) (kt := [1, 3, 5, 6]) (ko := [1, 2, 3]) (T' := [(1, .sl (List.map I path1)), (3, .ra 1 0), (5, .ra 2 0), (6, .ra 3 0)]) (O' := [(1, .box [.int .i64 t0.fOp, .int .i64 t0.fN, .sl (List.map I t0.fType), .sl (List.map GTerm_S t0.fKids)]), (2, .box [.int .i64 u2.fOp, .int .i64 u2.fN, .sl (List.map I u2.fType), .sl (List.map GTerm_S u2.fKids)]), (3, .box [.int .i64 0, .int .i64 0, .nils, .nils])]) (by kernel_rfl) trivial (by kernel_rfl) (by kernel_rfl) ?_
  refine seqQ_norm ?_
  refine Wp.seqN (by kernel_rfl) ?_
  obtain ⟨⟨r_1_2_0, r_1_2_1⟩, hr_1_2, h⟩ := bsome h
  refine Wp.reg tiok mix hc (by kernel_rfl) (ah := none) (rs := [some (.no), some (.no), some (.call (.tup [.agg [.int .i64 r_1_2_0.fOp, .int .i64 r_1_2_0.fN, .osl (List.map I r_1_2_0.fType), .osl (List.map GTerm_O r_1_2_0.fKids)], .bool r_1_2_1]) [] 4), some (.no), some (.no), some (.no), some (.new 6), some (.no), some (.no)]) (kt := [1, 3, 5, 6, 9]) (ko := [1, 2, 3]) (T' := [(1, .sl (List.map I path1)), (3, .ra 1 0), (5, .ra 2 0), (6, .ra 3 0), (9, .bool r_1_2_1)]) (O' := [(1, .box [.int .i64 t0.fOp, .int .i64 t0.fN, .sl (List.map I t0.fType), .sl (List.map GTerm_S t0.fKids)]), (2, .box [.int .i64 u2.fOp, .int .i64 u2.fN, .sl (List.map I u2.fType), .sl (List.map GTerm_S u2.fKids)]), (3, .box [.int .i64 0, .int .i64 0, .nils, .nils])]) (by kernel_rfl) (And.intro (spec_TermAt_s _ _ hr_1_2) (And.intro bod_30 (And.intro (Or.inl rfl : ([] : List Nat) = [] ∨ noSh (.tup [.agg [.int .i64 r_1_2_0.fOp, .int .i64 r_1_2_0.fN, .osl (List.map I r_1_2_0.fType), .osl (List.map GTerm_O r_1_2_0.fKids)], .bool r_1_2_1]) = true) trivial))) (by kernel_rfl) (by kernel_rfl) ?_
  refine seqQ_norm ?_
  refine Wp.seqN (by kernel_rfl) ?_
  refine Wp.seqN (by kernel_rfl) ?_
  obtain ⟨v_1, hj_2, h⟩ := bsome h
  refine Wp.into (x := .normal) (mkS [(1, .sl (List.map I path1)), (3, .ra 1 0), (5, .ra 2 0), (6, .ra 3 0), (23, .bool v_1)] [(1, .box [.int .i64 t0.fOp, .int .i64 t0.fN, .sl (List.map I t0.fType), .sl (List.map GTerm_S t0.fKids)]), (2, .box [.int .i64 u2.fOp, .int .i64 u2.fN, .sl (List.map I u2.fType), .sl (List.map GTerm_S u2.fKids)]), (3, .box [.int .i64 0, .int .i64 0, .nils, .nils])]) ?_ ?_
  · replace h := hj_2
    rcases itesome h with ⟨hb_2_0, h⟩ | ⟨hb_2_0, h⟩
    · obtain ⟨r_2_4, hr_2_4, h⟩ := bsome h
      refine Wp.reg tiok mix hc (by kernel_rfl) (ah := none) (rs := [some (.no), some (.no), some (.no), some (.no), some (.call (.int .i64 r_2_4) [] 1), some (.no), some (.cond false)]) (kt := [1, 3, 5, 6, 23]) (ko := [1, 2, 3]) (T' := [(1, .sl (List.map I path1)), (3, .ra 1 0), (5, .ra 2 0), (6, .ra 3 0), (23, .bool (decide (r_2_4 < 0)))]) (O' := [(1, .box [.int .i64 t0.fOp, .int .i64 t0.fN, .sl (List.map I t0.fType), .sl (List.map GTerm_S t0.fKids)]), (2, .box [.int .i64 u2.fOp, .int .i64 u2.fN, .sl (List.map I u2.fType), .sl (List.map GTerm_S u2.fKids)]), (3, .box [.int .i64 0, .int .i64 0, .nils, .nils])]) (by kernel_rfl) (And.intro (nF hb_2_0) (And.intro (nF hb_2_0) (And.intro (spec_l2Left_s _ _ hr_2_4) (And.intro bod_79 (And.intro (Or.inl rfl : ([] : List Nat) = [] ∨ noSh (.int .i64 r_2_4) = true) (And.intro (nF hb_2_0) (And.intro (nF hb_2_0) trivial))))))) (by kernel_rfl) (by kernel_rfl) ?_
      obtain rfl := Option.some.inj h
      exact Into.mk
    · refine Wp.reg tiok mix hc (by kernel_rfl) (ah := none) (rs := [some (.no), some (.no), some (.no), none, none, none, some (.cond true)]) (kt := [1, 3, 5, 6, 23]) (ko := [1, 2, 3]) (T' := [(1, .sl (List.map I path1)), (3, .ra 1 0), (5, .ra 2 0), (6, .ra 3 0), (23, .bool true)]) (O' := [(1, .box [.int .i64 t0.fOp, .int .i64 t0.fN, .sl (List.map I t0.fType), .sl (List.map GTerm_S t0.fKids)]), (2, .box [.int .i64 u2.fOp, .int .i64 u2.fN, .sl (List.map I u2.fType), .sl (List.map GTerm_S u2.fKids)]), (3, .box [.int .i64 0, .int .i64 0, .nils, .nils])]) (by kernel_rfl) (And.intro (neF (nT hb_2_0) : (!r_1_2_1) ≠ false) (And.intro (neF (nT hb_2_0) : (!r_1_2_1) ≠ false) (And.intro (neF (nT hb_2_0) : (!r_1_2_1) ≠ false) (And.intro (nT hb_2_0) trivial)))) (by kernel_rfl) (by kernel_rfl) ?_
      obtain rfl := Option.some.inj h
      exact Into.mk
  · clear hj_2
    refine seqQ_norm ?_
    rcases itesome h with ⟨hb_3, h⟩ | ⟨hb_3, h⟩
    · refine Wp.condT (b := v_1) (by kernel_rfl) (by kernel_rfl) hb_3 ?_
      refine Wp.seqN (by kernel_rfl) ?_
      refine Wp.reg tiok mix hc (by kernel_rfl) (ah := none) (rs := [some (.no), some (.no), some (.no)]) (kt := [6, 7]) (ko := [3]) (T' := [(6, .ra 3 0), (7, .bool false)]) (O' := [(3, .box [.int .i64 0, .int .i64 0, .nils, .nils])]) (by kernel_rfl) trivial (by kernel_rfl) (by kernel_rfl) ?_
      refine seqQ_norm ?_
      refine Wp.retN (by kernel_rfl) ?_
      refine seqQ_ret ?_
      obtain rfl := Option.some.inj h
      exact RetQ.ret (fl := [true, true]) (by kernel_rfl)
    · refine Wp.condF (b := v_1) (by kernel_rfl) (by kernel_rfl) hb_3 ?_
      refine Wp.skipN (by kernel_rfl) ?_
      refine seqQ_norm ?_
      refine Wp.seqN (by kernel_rfl) ?_
      obtain ⟨r_4_3, hr_4_3, h⟩ := bsome h
      refine Wp.reg tiok mix hc (by kernel_rfl) (ah := none) (rs := [some (.no), some (.no), some (.no), some (.call (.agg [.int .i64 r_4_3.fOp, .int .i64 r_4_3.fN, .osl (List.map I r_4_3.fType), .osl (List.map GTerm_O r_4_3.fKids)]) [] 7), some (.new 9), some (.no)]) (kt := [6, 10]) (ko := [3, 7, 8, 9]) (T' := [(6, .ra 3 0), (10, .ra 9 0)]) (O' := [(3, .box [.int .i64 0, .int .i64 0, .nils, .nils]), (7, .arr (List.map I r_4_3.fType)), (8, .arr (List.map GTerm_O r_4_3.fKids)), (9, .box [.int .i64 r_4_3.fOp, .int .i64 r_4_3.fN, .rs 7, .rs 8])]) (by kernel_rfl) (And.intro (spec_l4Set_s _ _ hr_4_3) (And.intro bod_80 (And.intro (Or.inl rfl : ([] : List Nat) = [] ∨ noSh (.agg [.int .i64 r_4_3.fOp, .int .i64 r_4_3.fN, .osl (List.map I r_4_3.fType), .osl (List.map GTerm_O r_4_3.fKids)]) = true) trivial))) (by kernel_rfl) (by kernel_rfl) ?_
      refine seqQ_norm ?_
      refine Wp.seqN (by kernel_rfl) ?_
      refine Wp.seqN (by kernel_rfl) ?_
      obtain ⟨r_5_1, hr_5_1, h⟩ := bsome h
      refine Wp.reg tiok mix hc (by kernel_rfl) (ah := none) (rs := [some (.no), some (.call (.bool r_5_1) [] 1), some (.no)]) (kt := [6, 10, 31]) (ko := [3, 7, 8, 9]) (T' := [(6, .ra 3 0), (10, .ra 9 0), (31, .bool (!r_5_1))]) (O' := [(3, .box [.int .i64 0, .int .i64 0, .nils, .nils]), (7, .arr (List.map I r_4_3.fType)), (8, .arr (List.map GTerm_O r_4_3.fKids)), (9, .box [.int .i64 r_4_3.fOp, .int .i64 r_4_3.fN, .rs 7, .rs 8])]) (by kernel_rfl) (And.intro (FnSound.args (A1 := [.agg [.int .i64 r_4_3.fOp, .int .i64 r_4_3.fN, .sl (shares (List.map I r_4_3.fType)), .sl (shares (List.map GTerm_O r_4_3.fKids))]]) (A2 := [.agg [.int .i64 r_4_3.fOp, .int .i64 r_4_3.fN, .sl (List.map I r_4_3.fType), .sl (List.map GTerm_S r_4_3.fKids)]]) (by simp only [List.map_nil, sh_GTerm_O, sh_I]) (spec_IsWritten_s _ _ hr_5_1)) (And.intro bod_58 (And.intro (Or.inr rfl : ([7, 8] : List Nat) = [] ∨ noSh (.bool r_5_1) = true) trivial))) (by kernel_rfl) (by kernel_rfl) ?_
      refine seqQ_norm ?_
      rcases itesome h with ⟨hb_4, h⟩ | ⟨hb_4, h⟩
      · refine Wp.condF (b := (!r_5_1)) (by kernel_rfl) (by kernel_rfl) (nF hb_4) ?_
        refine Wp.skipN (by kernel_rfl) ?_
        refine seqQ_norm ?_
        refine Wp.seqN (by kernel_rfl) ?_
        refine Wp.reg tiok mix hc (by kernel_rfl) (ah := none) (rs := [some (.no), some (.no), some (.no)]) (kt := [6, 7]) (ko := [3, 7, 8]) (T' := [(6, .ra 3 0), (7, .bool true)]) (O' := [(3, .box [.int .i64 r_4_3.fOp, .int .i64 r_4_3.fN, .rs 7, .rs 8]), (7, .arr (List.map I r_4_3.fType)), (8, .arr (List.map GTerm_O r_4_3.fKids))]) (by kernel_rfl) trivial (by kernel_rfl) (by kernel_rfl) ?_
        refine seqQ_norm ?_
        refine Wp.retN (by kernel_rfl) ?_
        obtain rfl := Option.some.inj h
        exact RetQ.ret (fl := [true, true]) (by kernel_rfl)
      · refine Wp.condT (b := (!r_5_1)) (by kernel_rfl) (by kernel_rfl) (nT hb_4) ?_
        refine Wp.seqN (by kernel_rfl) ?_
        refine Wp.reg tiok mix hc (by kernel_rfl) (ah := none) (rs := [some (.no), some (.no), some (.no)]) (kt := [6, 7]) (ko := [3]) (T' := [(6, .ra 3 0), (7, .bool false)]) (O' := [(3, .box [.int .i64 0, .int .i64 0, .nils, .nils])]) (by kernel_rfl) trivial (by kernel_rfl) (by kernel_rfl) ?_
        refine seqQ_norm ?_
        refine Wp.retN (by kernel_rfl) ?_
        refine seqQ_ret ?_
        obtain rfl := Option.some.inj h
        exact RetQ.ret (fl := [true, true]) (by kernel_rfl)
def impl_within (p : Int × Int × Int) : Option (Bool) :=
  match p with
  | (n0, low1, high2) =>
    (
      if (decide (n0 ≥ low1)) = true then
        some ((decide (n0 ≤ high2)))
      else
        some (false)
    ) >>= fun v_1 =>
    some v_1
def M_impl_within (p : Int × Int × Int) (r : Bool) : Prop :=
  match p with
  | (n0, low1, high2) => FnSound Try.prog 91 [.int .i64 n0, .int .i64 low1, .int .i64 high2] (.bool r) []
theorem impl_within_s : ∀ p r, impl_within p = some r → M_impl_within p r := by
  rintro ⟨n0, low1, high2⟩ r h
  unfold impl_within at h
  show FnSound Try.prog 91 [.int .i64 n0, .int .i64 low1, .int .i64 high2] (.bool r) []
  refine FnSound.body0 tiok (fn := Try.f91) (code := B91) (by kernel_rfl) (by kernel_rfl) (by kernel_rfl) (by kernel_rfl) (nt := 15) (by kernel_rfl) (by kernel_rfl) (T := [(0, .int .i64 n0), (1, .int .i64 low1), (2, .int .i64 high2)]) (O := []) (by kernel_rfl) (by kernel_rfl) (fun c hc => ?_)
  refine Wp.seqN (by kernel_rfl) ?_
  refine Wp.reg tiok mix hc (by kernel_rfl) (ah := none) (rs := [some (.no)]) (kt := [0, 1, 2]) (ko := []) (T' := [(0, .int .i64 n0), (1, .int .i64 low1), (2, .int .i64 high2)]) (O' := []) (by kernel_rfl) trivial (by kernel_rfl) (by kernel_rfl) ?_
  refine seqQ_norm ?_
  refine Wp.seqN (by kernel_rfl) ?_
  obtain ⟨v_1, hj_2, h⟩ := bsome h
  refine Wp.into (x := .normal) (mkS [(6, .bool v_1)] []) ?_ ?_
  · replace h := hj_2
    rcases itesome h with ⟨hb_1_0, h⟩ | ⟨hb_1_0, h⟩
    · refine Wp.reg tiok mix hc (by kernel_rfl) (ah := none) (rs := [some (.no), some (.no), some (.no), some (.no), some (.no), some (.no), some (.no), some (.cond true), some (.no)]) (kt := [6]) (ko := []) (T' := [(6, .bool (decide (n0 ≤ high2)))]) (O' := []) (by kernel_rfl) (And.intro hb_1_0 (And.intro hb_1_0 (And.intro hb_1_0 (And.intro hb_1_0 trivial)))) (by kernel_rfl) (by kernel_rfl) ?_
      obtain rfl := Option.some.inj h
      exact Into.mk
    · refine Wp.reg tiok mix hc (by kernel_rfl) (ah := none) (rs := [some (.no), some (.no), some (.no), some (.no), none, none, none, some (.cond false), some (.no)]) (kt := [6]) (ko := []) (T' := [(6, .bool false)]) (O' := []) (by kernel_rfl) (And.intro (neT hb_1_0 : (decide (n0 ≥ low1)) ≠ true) (And.intro (neT hb_1_0 : (decide (n0 ≥ low1)) ≠ true) (And.intro (neT hb_1_0 : (decide (n0 ≥ low1)) ≠ true) (And.intro hb_1_0 trivial)))) (by kernel_rfl) (by kernel_rfl) ?_
      obtain rfl := Option.some.inj h
      exact Into.mk
  · clear hj_2
    refine seqQ_norm ?_
    refine Wp.retN (by kernel_rfl) ?_
    obtain rfl := Option.some.inj h
    exact RetQ.ret (fl := [true]) (by kernel_rfl)
end Go.Am
