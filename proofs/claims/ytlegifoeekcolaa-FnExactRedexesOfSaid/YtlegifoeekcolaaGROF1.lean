/- Functions of the program as pure functions, and that it computes them. Printed by a program of mine (gen.py). -/
import Derived.Test.YtlegifoeekcolaaGROF0
set_option linter.unusedVariables false
set_option linter.unusedSimpArgs false
set_option maxRecDepth 100000
namespace Go.Am
open Go Go.Proofs
def spec_l2Node (p : GTerm × Int × Int × Bool) : Option (Bool) :=
  match p with
  | (t0, n1, size2, closed3) =>
    (spec_l2Many t0.fOp) >>= fun r_1_5 =>
    if ((t0.fKids.length : Int) != r_1_5) = true then
      some false
    else
      ((
        if (t0.fOp == 0) = true then
          (spec_l1In (t0.fN, 0, (wr (n1 - 1)))) >>= fun r_6_4 =>
          if r_6_4 = true then
            some (.inl ())
          else
            some (.inr false)
        else
          ((
            if (t0.fOp == 1) = true then
              (spec_l1In (t0.fN, 0, 2)) >>= fun r_9_2 =>
              if r_9_2 = true then
                some (.inl ())
              else
                some (.inr false)
            else
              (spec_l2Has t0.fOp) >>= fun r_11_2 =>
              ((
                if r_11_2 = true then
                  (
                    if (decide (t0.fN ≥ size2)) = true then
                      some (true)
                    else
                      if (decide (t0.fN < (-1))) = true then
                        some (true)
                      else
                        if closed3 = true then
                          some ((decide (t0.fN < 0)))
                        else
                          some (false)
                  ) >>= fun v_7 =>
                  if v_7 = true then
                    some (.inr false)
                  else
                    some (.inl ())
                else
                  if (t0.fN != 0) = true then
                    some (.inr false)
                  else
                    some (.inl ())) : Option ((Unit) ⊕ (Bool))) >>= fun fl => match fl with
              | .inl () =>
                some (.inl ())
              | .inr r =>
                some (.inr r)) : Option ((Unit) ⊕ (Bool))) >>= fun fl => match fl with
          | .inl () =>
            some (.inl ())
          | .inr r =>
            some (.inr r)) : Option ((Unit) ⊕ (Bool))) >>= fun fl => match fl with
      | .inl () =>
        (spec_l2Typed t0.fOp) >>= fun r_14_2 =>
        if r_14_2 = true then
          (
            (spec_l2Type t0.fType) >>= fun r_16_2 =>
            if r_16_2 = true then
              (spec_l2Graded (t0.fType, size2, closed3)) >>= fun r_16_8 =>
              some (r_16_8)
            else
              some (false)
          ) >>= fun v_15 =>
          some v_15
        else
          some ((t0.fType.length : Int) == 0)
      | .inr r =>
        some r
def M_spec_l2Node (p : GTerm × Int × Int × Bool) (r : Bool) : Prop :=
  match p with
  | (t0, n1, size2, closed3) => FnSound Try.prog 122 [.agg [.int .i64 t0.fOp, .int .i64 t0.fN, .sl (List.map I t0.fType), .sl (List.map GTerm_S t0.fKids)], .int .i64 n1, .int .i64 size2, .bool closed3] (.bool r) []
theorem spec_l2Node_s : ∀ p r, spec_l2Node p = some r → M_spec_l2Node p r := by
  rintro ⟨t0, n1, size2, closed3⟩ r h
  unfold spec_l2Node at h
  show FnSound Try.prog 122 [.agg [.int .i64 t0.fOp, .int .i64 t0.fN, .sl (List.map I t0.fType), .sl (List.map GTerm_S t0.fKids)], .int .i64 n1, .int .i64 size2, .bool closed3] (.bool r) []
  refine FnSound.body0 tiok (fn := Try.f122) (code := B122) (by kernel_rfl) (by kernel_rfl) (by kernel_rfl) (by kernel_rfl) (nt := 76) (by kernel_rfl) (by kernel_rfl) (T := [(0, .agg [.int .i64 t0.fOp, .int .i64 t0.fN, .sl (List.map I t0.fType), .sl (List.map GTerm_S t0.fKids)]), (1, .int .i64 n1), (2, .int .i64 size2), (3, .bool closed3)]) (O := []) (by kernel_rfl) (by kernel_rfl) (fun c hc => ?_)
  refine Wp.seqN (by kernel_rfl) ?_
  refine Wp.reg tiok mix hc (by kernel_rfl) (ah := none) (rs := [some (.new 1), some (.no)]) (kt := [1, 2, 3, 4]) (ko := [1]) (T' := [(1, .int .i64 n1), (2, .int .i64 size2), (3, .bool closed3), (4, .ra 1 0)]) (O' := [(1, .box [.int .i64 t0.fOp, .int .i64 t0.fN, .sl (List.map I t0.fType), .sl (List.map GTerm_S t0.fKids)])]) (by kernel_rfl) trivial (by kernel_rfl) (by kernel_rfl) ?_
  refine seqQ_norm ?_
  refine Wp.seqN (by kernel_rfl) ?_
  refine Wp.seqN (by kernel_rfl) ?_
  obtain ⟨r_1_5, hr_1_5, h⟩ := bsome h
  refine Wp.reg tiok mix hc (by kernel_rfl) (ah := (some [[], [0], [0, 1], [], [3], [3, 4], [0, 1, 2, 3, 4, 5]])) (rs := [some (.no), some (.no), some (.eqv (.no) ⟨[(11, .int .i64 (t0.fKids.length : Int))], [], []⟩), some (.no), some (.no), some (.call (.int .i64 r_1_5) [] 1), some (.no)]) (kt := [1, 2, 3, 4, 15]) (ko := [1]) (T' := [(1, .int .i64 n1), (2, .int .i64 size2), (3, .bool closed3), (4, .ra 1 0), (15, .bool ((t0.fKids.length : Int) != r_1_5))]) (O' := [(1, .box [.int .i64 t0.fOp, .int .i64 t0.fN, .sl (List.map I t0.fType), .sl (List.map GTerm_S t0.fKids)])]) (by kernel_rfl) (And.intro (lenT (d := 11) GTerm_S t0.fKids) (And.intro (spec_l2Many_s _ _ hr_1_5) (And.intro bod_133 (And.intro (Or.inl rfl : ([] : List Nat) = [] ∨ noSh (.int .i64 r_1_5) = true) trivial)))) (by kernel_rfl) (by kernel_rfl) ?_
  refine seqQ_norm ?_
  rcases itesome h with ⟨hb_1, h⟩ | ⟨hb_1, h⟩
  · refine Wp.condT (b := ((t0.fKids.length : Int) != r_1_5)) (by kernel_rfl) (by kernel_rfl) hb_1 ?_
    refine Wp.seqN (by kernel_rfl) ?_
    refine Wp.reg tiok mix hc (by kernel_rfl) (ah := none) (rs := [some (.no)]) (kt := [8]) (ko := []) (T' := [(8, .bool false)]) (O' := []) (by kernel_rfl) trivial (by kernel_rfl) (by kernel_rfl) ?_
    refine seqQ_norm ?_
    refine Wp.retN (by kernel_rfl) ?_
    refine seqQ_ret ?_
    obtain rfl := Option.some.inj h
    exact RetQ.ret (fl := [true]) (by kernel_rfl)
  · refine Wp.condF (b := ((t0.fKids.length : Int) != r_1_5)) (by kernel_rfl) (by kernel_rfl) hb_1 ?_
    refine Wp.skipN (by kernel_rfl) ?_
    refine seqQ_norm ?_
    refine Wp.seqN (by kernel_rfl) ?_
    refine Wp.blockN (i := 0) (by kernel_rfl) ?_
    refine Wp.seqN (by kernel_rfl) ?_
    refine Wp.reg tiok mix hc (by kernel_rfl) (ah := none) (rs := [some (.no), some (.no), some (.no), some (.no)]) (kt := [1, 2, 3, 4, 19]) (ko := [1]) (T' := [(1, .int .i64 n1), (2, .int .i64 size2), (3, .bool closed3), (4, .ra 1 0), (19, .bool (t0.fOp == 0))]) (O' := [(1, .box [.int .i64 t0.fOp, .int .i64 t0.fN, .sl (List.map I t0.fType), .sl (List.map GTerm_S t0.fKids)])]) (by kernel_rfl) trivial (by kernel_rfl) (by kernel_rfl) ?_
    refine seqQ_norm ?_
    obtain ⟨fl, hj_13, h⟩ := bsome h
    have hF : Wp Try.prog c (cr (cl (cl (cr (cr B122))))) (spec_l2Node_F3 c t0 size2 closed3 fl) (mkS [(1, .int .i64 n1), (2, .int .i64 size2), (3, .bool closed3), (4, .ra 1 0), (19, .bool (t0.fOp == 0))] [(1, .box [.int .i64 t0.fOp, .int .i64 t0.fN, .sl (List.map I t0.fType), .sl (List.map GTerm_S t0.fKids)])]) := by
      replace h := hj_13
      rcases itesome h with ⟨hb_2, h⟩ | ⟨hb_2, h⟩
      · refine Wp.condT (b := (t0.fOp == 0)) (by kernel_rfl) (by kernel_rfl) hb_2 ?_
        refine Wp.seqN (by kernel_rfl) ?_
        obtain ⟨r_6_4, hr_6_4, h⟩ := bsome h
        refine Wp.reg tiok mix hc (by kernel_rfl) (ah := none) (rs := [some (.no), some (.no), some (.no), some (.no), some (.call (.bool r_6_4) [] 1), some (.no)]) (kt := [2, 3, 4, 28]) (ko := [1]) (T' := [(2, .int .i64 size2), (3, .bool closed3), (4, .ra 1 0), (28, .bool (!r_6_4))]) (O' := [(1, .box [.int .i64 t0.fOp, .int .i64 t0.fN, .sl (List.map I t0.fType), .sl (List.map GTerm_S t0.fKids)])]) (by kernel_rfl) (And.intro (spec_l1In_s _ _ hr_6_4) (And.intro bod_70 (And.intro (Or.inl rfl : ([] : List Nat) = [] ∨ noSh (.bool r_6_4) = true) trivial))) (by kernel_rfl) (by kernel_rfl) ?_
        refine seqQ_norm ?_
        rcases itesome h with ⟨hb_3, h⟩ | ⟨hb_3, h⟩
        · refine Wp.condF (b := (!r_6_4)) (by kernel_rfl) (by kernel_rfl) (nF hb_3) ?_
          refine Wp.skipN (by kernel_rfl) ?_
          obtain rfl := Option.some.inj h
          exact Into.view (fun a w hv => SRx.renL [] hv (by kernel_rfl) (by kernel_rfl) (by kernel_rfl))
        · refine Wp.condT (b := (!r_6_4)) (by kernel_rfl) (by kernel_rfl) (nT hb_3) ?_
          refine Wp.seqN (by kernel_rfl) ?_
          refine Wp.reg tiok mix hc (by kernel_rfl) (ah := none) (rs := [some (.no)]) (kt := [8]) (ko := []) (T' := [(8, .bool false)]) (O' := []) (by kernel_rfl) trivial (by kernel_rfl) (by kernel_rfl) ?_
          refine seqQ_norm ?_
          refine Wp.retN (by kernel_rfl) ?_
          obtain rfl := Option.some.inj h
          exact RetE.ret (fl := [true]) (by kernel_rfl)
      · refine Wp.condF (b := (t0.fOp == 0)) (by kernel_rfl) (by kernel_rfl) hb_2 ?_
        refine Wp.seqN (by kernel_rfl) ?_
        refine Wp.reg tiok mix hc (by kernel_rfl) (ah := none) (rs := [some (.no), some (.no), some (.no), some (.no)]) (kt := [2, 3, 4, 29]) (ko := [1]) (T' := [(2, .int .i64 size2), (3, .bool closed3), (4, .ra 1 0), (29, .bool (t0.fOp == 1))]) (O' := [(1, .box [.int .i64 t0.fOp, .int .i64 t0.fN, .sl (List.map I t0.fType), .sl (List.map GTerm_S t0.fKids)])]) (by kernel_rfl) trivial (by kernel_rfl) (by kernel_rfl) ?_
        refine seqQ_norm ?_
        obtain ⟨fl, hj_12, h⟩ := bsome h
        have hF : Wp Try.prog c (cr (cr (cr (cl (cl (cr (cr B122))))))) (spec_l2Node_F2 c t0 size2 closed3 fl) (mkS [(2, .int .i64 size2), (3, .bool closed3), (4, .ra 1 0), (29, .bool (t0.fOp == 1))] [(1, .box [.int .i64 t0.fOp, .int .i64 t0.fN, .sl (List.map I t0.fType), .sl (List.map GTerm_S t0.fKids)])]) := by
          replace h := hj_12
          rcases itesome h with ⟨hb_4, h⟩ | ⟨hb_4, h⟩
          · refine Wp.condT (b := (t0.fOp == 1)) (by kernel_rfl) (by kernel_rfl) hb_4 ?_
            refine Wp.seqN (by kernel_rfl) ?_
            obtain ⟨r_9_2, hr_9_2, h⟩ := bsome h
            refine Wp.reg tiok mix hc (by kernel_rfl) (ah := none) (rs := [some (.no), some (.no), some (.call (.bool r_9_2) [] 1), some (.no)]) (kt := [2, 3, 4, 36]) (ko := [1]) (T' := [(2, .int .i64 size2), (3, .bool closed3), (4, .ra 1 0), (36, .bool (!r_9_2))]) (O' := [(1, .box [.int .i64 t0.fOp, .int .i64 t0.fN, .sl (List.map I t0.fType), .sl (List.map GTerm_S t0.fKids)])]) (by kernel_rfl) (And.intro (spec_l1In_s _ _ hr_9_2) (And.intro bod_70 (And.intro (Or.inl rfl : ([] : List Nat) = [] ∨ noSh (.bool r_9_2) = true) trivial))) (by kernel_rfl) (by kernel_rfl) ?_
            refine seqQ_norm ?_
            rcases itesome h with ⟨hb_5, h⟩ | ⟨hb_5, h⟩
            · refine Wp.condF (b := (!r_9_2)) (by kernel_rfl) (by kernel_rfl) (nF hb_5) ?_
              refine Wp.skipN (by kernel_rfl) ?_
              obtain rfl := Option.some.inj h
              exact Into.view (fun a w hv => SRx.renL [] hv (by kernel_rfl) (by kernel_rfl) (by kernel_rfl))
            · refine Wp.condT (b := (!r_9_2)) (by kernel_rfl) (by kernel_rfl) (nT hb_5) ?_
              refine Wp.seqN (by kernel_rfl) ?_
              refine Wp.reg tiok mix hc (by kernel_rfl) (ah := none) (rs := [some (.no)]) (kt := [8]) (ko := []) (T' := [(8, .bool false)]) (O' := []) (by kernel_rfl) trivial (by kernel_rfl) (by kernel_rfl) ?_
              refine seqQ_norm ?_
              refine Wp.retN (by kernel_rfl) ?_
              obtain rfl := Option.some.inj h
              exact RetE.ret (fl := [true]) (by kernel_rfl)
          · refine Wp.condF (b := (t0.fOp == 1)) (by kernel_rfl) (by kernel_rfl) hb_4 ?_
            refine Wp.seqN (by kernel_rfl) ?_
            obtain ⟨r_11_2, hr_11_2, h⟩ := bsome h
            refine Wp.reg tiok mix hc (by kernel_rfl) (ah := none) (rs := [some (.no), some (.no), some (.call (.bool r_11_2) [] 1), some (.no)]) (kt := [2, 3, 4, 37]) (ko := [1]) (T' := [(2, .int .i64 size2), (3, .bool closed3), (4, .ra 1 0), (37, .bool r_11_2)]) (O' := [(1, .box [.int .i64 t0.fOp, .int .i64 t0.fN, .sl (List.map I t0.fType), .sl (List.map GTerm_S t0.fKids)])]) (by kernel_rfl) (And.intro (spec_l2Has_s _ _ hr_11_2) (And.intro bod_98 (And.intro (Or.inl rfl : ([] : List Nat) = [] ∨ noSh (.bool r_11_2) = true) trivial))) (by kernel_rfl) (by kernel_rfl) ?_
            refine seqQ_norm ?_
            obtain ⟨fl, hj_11, h⟩ := bsome h
            have hF : Wp Try.prog c (cr (cr (cr (cr (cr (cl (cl (cr (cr B122))))))))) (spec_l2Node_F1 c t0 size2 closed3 fl) (mkS [(2, .int .i64 size2), (3, .bool closed3), (4, .ra 1 0), (37, .bool r_11_2)] [(1, .box [.int .i64 t0.fOp, .int .i64 t0.fN, .sl (List.map I t0.fType), .sl (List.map GTerm_S t0.fKids)])]) := by
              replace h := hj_11
              rcases itesome h with ⟨hb_6, h⟩ | ⟨hb_6, h⟩
              · refine Wp.condT (b := r_11_2) (by kernel_rfl) (by kernel_rfl) hb_6 ?_
                refine Wp.seqN (by kernel_rfl) ?_
                obtain ⟨v_7, hj_8, h⟩ := bsome h
                refine Wp.into (x := .normal) (mkS [(2, .int .i64 size2), (3, .bool closed3), (4, .ra 1 0), (57, .bool v_7)] [(1, .box [.int .i64 t0.fOp, .int .i64 t0.fN, .sl (List.map I t0.fType), .sl (List.map GTerm_S t0.fKids)])]) ?_ ?_
                · replace h := hj_8
                  rcases itesome h with ⟨hb_12_0, h⟩ | ⟨hb_12_0, h⟩
                  · refine Wp.reg tiok mix hc (by kernel_rfl) (ah := none) (rs := [some (.no), some (.no), some (.no), some (.no), some (.no), none, none, none, some (.cond true), some (.no), none, none, none, none, none, none, some (.cond true)]) (kt := [2, 3, 4, 57]) (ko := [1]) (T' := [(2, .int .i64 size2), (3, .bool closed3), (4, .ra 1 0), (57, .bool true)]) (O' := [(1, .box [.int .i64 t0.fOp, .int .i64 t0.fN, .sl (List.map I t0.fType), .sl (List.map GTerm_S t0.fKids)])]) (by kernel_rfl) (And.intro (neF hb_12_0 : (decide (t0.fN ≥ size2)) ≠ false) (And.intro (neF hb_12_0 : (decide (t0.fN ≥ size2)) ≠ false) (And.intro (neF hb_12_0 : (decide (t0.fN ≥ size2)) ≠ false) (And.intro hb_12_0 (And.intro (neF (rfl : true = true) : true ≠ false) (And.intro (neF (rfl : true = true) : true ≠ false) (And.intro (neF (rfl : true = true) : true ≠ false) (And.intro (rfl : true = true) trivial)))))))) (by kernel_rfl) (by kernel_rfl) ?_
                    obtain rfl := Option.some.inj h
                    exact Into.mk
                  · rcases itesome h with ⟨hb_12_1, h⟩ | ⟨hb_12_1, h⟩
                    · refine Wp.reg tiok mix hc (by kernel_rfl) (ah := none) (rs := [some (.no), some (.no), some (.no), some (.no), some (.no), some (.no), some (.no), some (.no), some (.cond false), some (.no), none, none, none, none, none, none, some (.cond true)]) (kt := [2, 3, 4, 57]) (ko := [1]) (T' := [(2, .int .i64 size2), (3, .bool closed3), (4, .ra 1 0), (57, .bool true)]) (O' := [(1, .box [.int .i64 t0.fOp, .int .i64 t0.fN, .sl (List.map I t0.fType), .sl (List.map GTerm_S t0.fKids)])]) (by kernel_rfl) (And.intro hb_12_0 (And.intro hb_12_0 (And.intro hb_12_0 (And.intro hb_12_0 (And.intro (neF hb_12_1 : (decide (t0.fN < (-1))) ≠ false) (And.intro (neF hb_12_1 : (decide (t0.fN < (-1))) ≠ false) (And.intro (neF hb_12_1 : (decide (t0.fN < (-1))) ≠ false) (And.intro hb_12_1 trivial)))))))) (by kernel_rfl) (by kernel_rfl) ?_
                      obtain rfl := Option.some.inj h
                      exact Into.mk
                    · rcases itesome h with ⟨hb_12_2, h⟩ | ⟨hb_12_2, h⟩
                      · refine Wp.reg tiok mix hc (by kernel_rfl) (ah := none) (rs := [some (.no), some (.no), some (.no), some (.no), some (.no), some (.no), some (.no), some (.no), some (.cond false), some (.no), some (.no), some (.no), some (.no), some (.no), some (.no), some (.cond true), some (.cond false)]) (kt := [2, 3, 4, 57]) (ko := [1]) (T' := [(2, .int .i64 size2), (3, .bool closed3), (4, .ra 1 0), (57, .bool (decide (t0.fN < 0)))]) (O' := [(1, .box [.int .i64 t0.fOp, .int .i64 t0.fN, .sl (List.map I t0.fType), .sl (List.map GTerm_S t0.fKids)])]) (by kernel_rfl) (And.intro hb_12_0 (And.intro hb_12_0 (And.intro hb_12_0 (And.intro hb_12_0 (And.intro hb_12_1 (And.intro hb_12_1 (And.intro hb_12_2 (And.intro hb_12_2 (And.intro hb_12_2 (And.intro hb_12_1 (And.intro hb_12_2 (And.intro hb_12_1 trivial)))))))))))) (by kernel_rfl) (by kernel_rfl) ?_
                        obtain rfl := Option.some.inj h
                        exact Into.mk
                      · refine Wp.reg tiok mix hc (by kernel_rfl) (ah := none) (rs := [some (.no), some (.no), some (.no), some (.no), some (.no), some (.no), some (.no), some (.no), some (.cond false), some (.no), some (.no), some (.no), none, none, none, some (.cond false), some (.cond false)]) (kt := [2, 3, 4, 57]) (ko := [1]) (T' := [(2, .int .i64 size2), (3, .bool closed3), (4, .ra 1 0), (57, .bool false)]) (O' := [(1, .box [.int .i64 t0.fOp, .int .i64 t0.fN, .sl (List.map I t0.fType), .sl (List.map GTerm_S t0.fKids)])]) (by kernel_rfl) (And.intro hb_12_0 (And.intro hb_12_0 (And.intro hb_12_0 (And.intro hb_12_0 (And.intro hb_12_1 (And.intro hb_12_1 (And.intro (neT hb_12_2 : closed3 ≠ true) (And.intro (neT hb_12_2 : closed3 ≠ true) (And.intro (neT hb_12_2 : closed3 ≠ true) (And.intro hb_12_1 (And.intro hb_12_2 (And.intro hb_12_1 trivial)))))))))))) (by kernel_rfl) (by kernel_rfl) ?_
                        obtain rfl := Option.some.inj h
                        exact Into.mk
                · clear hj_8
                  refine seqQ_norm ?_
                  rcases itesome h with ⟨hb_9, h⟩ | ⟨hb_9, h⟩
                  · refine Wp.condT (b := v_7) (by kernel_rfl) (by kernel_rfl) hb_9 ?_
                    refine Wp.seqN (by kernel_rfl) ?_
                    refine Wp.reg tiok mix hc (by kernel_rfl) (ah := none) (rs := [some (.no)]) (kt := [8]) (ko := []) (T' := [(8, .bool false)]) (O' := []) (by kernel_rfl) trivial (by kernel_rfl) (by kernel_rfl) ?_
                    refine seqQ_norm ?_
                    refine Wp.retN (by kernel_rfl) ?_
                    obtain rfl := Option.some.inj h
                    exact RetE.ret (fl := [true]) (by kernel_rfl)
                  · refine Wp.condF (b := v_7) (by kernel_rfl) (by kernel_rfl) hb_9 ?_
                    refine Wp.skipN (by kernel_rfl) ?_
                    obtain rfl := Option.some.inj h
                    exact Into.view (fun a w hv => SRx.renL [] hv (by kernel_rfl) (by kernel_rfl) (by kernel_rfl))
              · refine Wp.condF (b := r_11_2) (by kernel_rfl) (by kernel_rfl) hb_6 ?_
                refine Wp.seqN (by kernel_rfl) ?_
                refine Wp.reg tiok mix hc (by kernel_rfl) (ah := none) (rs := [some (.no), some (.no), some (.no)]) (kt := [2, 3, 4, 18]) (ko := [1]) (T' := [(2, .int .i64 size2), (3, .bool closed3), (4, .ra 1 0), (18, .bool (t0.fN != 0))]) (O' := [(1, .box [.int .i64 t0.fOp, .int .i64 t0.fN, .sl (List.map I t0.fType), .sl (List.map GTerm_S t0.fKids)])]) (by kernel_rfl) trivial (by kernel_rfl) (by kernel_rfl) ?_
                refine seqQ_norm ?_
                rcases itesome h with ⟨hb_10, h⟩ | ⟨hb_10, h⟩
                · refine Wp.condT (b := (t0.fN != 0)) (by kernel_rfl) (by kernel_rfl) hb_10 ?_
                  refine Wp.seqN (by kernel_rfl) ?_
                  refine Wp.reg tiok mix hc (by kernel_rfl) (ah := none) (rs := [some (.no)]) (kt := [8]) (ko := []) (T' := [(8, .bool false)]) (O' := []) (by kernel_rfl) trivial (by kernel_rfl) (by kernel_rfl) ?_
                  refine seqQ_norm ?_
                  refine Wp.retN (by kernel_rfl) ?_
                  obtain rfl := Option.some.inj h
                  exact RetE.ret (fl := [true]) (by kernel_rfl)
                · refine Wp.condF (b := (t0.fN != 0)) (by kernel_rfl) (by kernel_rfl) hb_10 ?_
                  refine Wp.skipN (by kernel_rfl) ?_
                  obtain rfl := Option.some.inj h
                  exact Into.view (fun a w hv => SRx.renL [] hv (by kernel_rfl) (by kernel_rfl) (by kernel_rfl))
            rcases fl with ⟨⟩ | r
            · refine Wp.into (x := .normal) (mkS [(2, .int .i64 size2), (3, .bool closed3), (4, .ra 1 0)] [(1, .box [.int .i64 t0.fOp, .int .i64 t0.fN, .sl (List.map I t0.fType), .sl (List.map GTerm_S t0.fKids)])]) hF ?_
              obtain rfl := Option.some.inj h
              exact Into.mk
            · refine Wp.mono hF ?_
              rintro _ _ ⟨rfl, hfin⟩
              obtain rfl := Option.some.inj h
              exact ⟨rfl, hfin⟩
        rcases fl with ⟨⟩ | r
        · refine Wp.into (x := .normal) (mkS [(2, .int .i64 size2), (3, .bool closed3), (4, .ra 1 0)] [(1, .box [.int .i64 t0.fOp, .int .i64 t0.fN, .sl (List.map I t0.fType), .sl (List.map GTerm_S t0.fKids)])]) hF ?_
          obtain rfl := Option.some.inj h
          exact Into.mk
        · refine Wp.mono hF ?_
          rintro _ _ ⟨rfl, hfin⟩
          obtain rfl := Option.some.inj h
          exact ⟨rfl, hfin⟩
    rcases fl with ⟨⟩ | r
    · refine Wp.into (x := .normal) (mkS [(2, .int .i64 size2), (3, .bool closed3), (4, .ra 1 0)] [(1, .box [.int .i64 t0.fOp, .int .i64 t0.fN, .sl (List.map I t0.fType), .sl (List.map GTerm_S t0.fKids)])]) hF ?_
      refine blockQ_norm ?_
      refine seqQ_norm ?_
      refine Wp.seqN (by kernel_rfl) ?_
      refine Wp.seqN (by kernel_rfl) ?_
      obtain ⟨r_14_2, hr_14_2, h⟩ := bsome h
      refine Wp.reg tiok mix hc (by kernel_rfl) (ah := none) (rs := [some (.no), some (.no), some (.call (.bool r_14_2) [] 1), some (.no)]) (kt := [2, 3, 4, 61]) (ko := [1]) (T' := [(2, .int .i64 size2), (3, .bool closed3), (4, .ra 1 0), (61, .bool (!r_14_2))]) (O' := [(1, .box [.int .i64 t0.fOp, .int .i64 t0.fN, .sl (List.map I t0.fType), .sl (List.map GTerm_S t0.fKids)])]) (by kernel_rfl) (And.intro (spec_l2Typed_s _ _ hr_14_2) (And.intro bod_134 (And.intro (Or.inl rfl : ([] : List Nat) = [] ∨ noSh (.bool r_14_2) = true) trivial))) (by kernel_rfl) (by kernel_rfl) ?_
      refine seqQ_norm ?_
      rcases itesome h with ⟨hb_14, h⟩ | ⟨hb_14, h⟩
      · refine Wp.condF (b := (!r_14_2)) (by kernel_rfl) (by kernel_rfl) (nF hb_14) ?_
        refine Wp.skipN (by kernel_rfl) ?_
        refine seqQ_norm ?_
        refine Wp.seqN (by kernel_rfl) ?_
        obtain ⟨v_15, hj_16, h⟩ := bsome h
        refine Wp.into (x := .normal) (mkS [(8, .bool v_15)] []) ?_ ?_
        · replace h := hj_16
          obtain ⟨r_16_2, hr_16_2, h⟩ := bsome h
          rcases itesome h with ⟨hb_16_0, h⟩ | ⟨hb_16_0, h⟩
          · obtain ⟨r_16_8, hr_16_8, h⟩ := bsome h
            refine Wp.reg tiok mix hc (by kernel_rfl) (ah := none) (rs := [some (.no), some (.no), some (.call (.bool r_16_2) [] 1), some (.no), some (.no), some (.no), some (.no), some (.no), some (.call (.bool r_16_8) [] 1), some (.cond true), some (.no)]) (kt := [8]) (ko := []) (T' := [(8, .bool r_16_8)]) (O' := []) (by kernel_rfl) (And.intro (spec_l2Type_s _ _ hr_16_2) (And.intro bod_125 (And.intro (Or.inl rfl : ([] : List Nat) = [] ∨ noSh (.bool r_16_2) = true) (And.intro hb_16_0 (And.intro hb_16_0 (And.intro hb_16_0 (And.intro hb_16_0 (And.intro hb_16_0 (And.intro (spec_l2Graded_s _ _ hr_16_8) (And.intro bod_126 (And.intro (Or.inl rfl : ([] : List Nat) = [] ∨ noSh (.bool r_16_8) = true) (And.intro hb_16_0 trivial)))))))))))) (by kernel_rfl) (by kernel_rfl) ?_
            obtain rfl := Option.some.inj h
            exact Into.mk
          · refine Wp.reg tiok mix hc (by kernel_rfl) (ah := none) (rs := [some (.no), some (.no), some (.call (.bool r_16_2) [] 1), some (.no), none, none, none, none, none, some (.cond false), some (.no)]) (kt := [8]) (ko := []) (T' := [(8, .bool false)]) (O' := []) (by kernel_rfl) (And.intro (spec_l2Type_s _ _ hr_16_2) (And.intro bod_125 (And.intro (Or.inl rfl : ([] : List Nat) = [] ∨ noSh (.bool r_16_2) = true) (And.intro (neT hb_16_0 : r_16_2 ≠ true) (And.intro (neT hb_16_0 : r_16_2 ≠ true) (And.intro (neT hb_16_0 : r_16_2 ≠ true) (And.intro (neT hb_16_0 : r_16_2 ≠ true) (And.intro (neT hb_16_0 : r_16_2 ≠ true) (And.intro hb_16_0 trivial))))))))) (by kernel_rfl) (by kernel_rfl) ?_
            obtain rfl := Option.some.inj h
            exact Into.mk
        · clear hj_16
          refine seqQ_norm ?_
          refine Wp.retN (by kernel_rfl) ?_
          obtain rfl := Option.some.inj h
          exact RetQ.ret (fl := [true]) (by kernel_rfl)
      · refine Wp.condT (b := (!r_14_2)) (by kernel_rfl) (by kernel_rfl) (nT hb_14) ?_
        refine Wp.seqN (by kernel_rfl) ?_
        refine Wp.reg tiok mix hc (by kernel_rfl) (ah := none) (rs := [some (.no), some (.no), some (.eqv (.no) ⟨[(64, .int .i64 (t0.fType.length : Int))], [], []⟩), some (.no), some (.no)]) (kt := [8]) (ko := []) (T' := [(8, .bool ((t0.fType.length : Int) == 0))]) (O' := []) (by kernel_rfl) (And.intro (lenT (d := 64) I t0.fType) trivial) (by kernel_rfl) (by kernel_rfl) ?_
        refine seqQ_norm ?_
        refine Wp.retN (by kernel_rfl) ?_
        refine seqQ_ret ?_
        obtain rfl := Option.some.inj h
        exact RetQ.ret (fl := [true]) (by kernel_rfl)
    · refine Wp.mono hF ?_
      rintro _ _ ⟨rfl, hfin⟩
      refine blockQ_ret ?_
      refine seqQ_ret ?_
      obtain rfl := Option.some.inj h
      exact ⟨.inl rfl, hfin⟩
def spec_l2Adds (p : Int × Int) : Option (Int) :=
  match p with
  | (op0, kid1) =>
    (
      if (op0 == 5) = true then
        some ((kid1 == 1))
      else
        some (false)
    ) >>= fun v_1 =>
    if v_1 = true then
      some 2
    else
      (
        if (op0 == 8) = true then
          if (decide (kid1 > 0)) = true then
            some (true)
          else
            if (op0 == 9) = true then
              some (true)
            else
              if (op0 == 12) = true then
                some ((kid1 == 1))
              else
                some (false)
        else
          if (op0 == 9) = true then
            some (true)
          else
            if (op0 == 12) = true then
              some ((kid1 == 1))
            else
              some (false)
      ) >>= fun v_4 =>
      if v_4 = true then
        some 1
      else
        some 0
def M_spec_l2Adds (p : Int × Int) (r : Int) : Prop :=
  match p with
  | (op0, kid1) => FnSound Try.prog 113 [.int .i64 op0, .int .i64 kid1] (.int .i64 r) []
theorem spec_l2Adds_s : ∀ p r, spec_l2Adds p = some r → M_spec_l2Adds p r := by
  rintro ⟨op0, kid1⟩ r h
  unfold spec_l2Adds at h
  show FnSound Try.prog 113 [.int .i64 op0, .int .i64 kid1] (.int .i64 r) []
  refine FnSound.body0 tiok (fn := Try.f113) (code := B113) (by kernel_rfl) (by kernel_rfl) (by kernel_rfl) (by kernel_rfl) (nt := 31) (by kernel_rfl) (by kernel_rfl) (T := [(0, .int .i64 op0), (1, .int .i64 kid1)]) (O := []) (by kernel_rfl) (by kernel_rfl) (fun c hc => ?_)
  refine Wp.seqN (by kernel_rfl) ?_
  refine Wp.reg tiok mix hc (by kernel_rfl) (ah := none) (rs := [some (.no)]) (kt := [0, 1]) (ko := []) (T' := [(0, .int .i64 op0), (1, .int .i64 kid1)]) (O' := []) (by kernel_rfl) trivial (by kernel_rfl) (by kernel_rfl) ?_
  refine seqQ_norm ?_
  refine Wp.seqN (by kernel_rfl) ?_
  refine Wp.blockN (i := 0) (by kernel_rfl) ?_
  refine Wp.seqN (by kernel_rfl) ?_
  obtain ⟨v_1, hj_2, h⟩ := bsome h
  refine Wp.into (x := .normal) (mkS [(0, .int .i64 op0), (1, .int .i64 kid1), (5, .bool v_1)] []) ?_ ?_
  · replace h := hj_2
    rcases itesome h with ⟨hb_1_0, h⟩ | ⟨hb_1_0, h⟩
    · refine Wp.reg tiok mix hc (by kernel_rfl) (ah := none) (rs := [some (.no), some (.no), some (.no), some (.no), some (.no), some (.cond true), some (.no)]) (kt := [0, 1, 5]) (ko := []) (T' := [(0, .int .i64 op0), (1, .int .i64 kid1), (5, .bool (kid1 == 1))]) (O' := []) (by kernel_rfl) (And.intro hb_1_0 (And.intro hb_1_0 (And.intro hb_1_0 trivial))) (by kernel_rfl) (by kernel_rfl) ?_
      obtain rfl := Option.some.inj h
      exact Into.mk
    · refine Wp.reg tiok mix hc (by kernel_rfl) (ah := none) (rs := [some (.no), some (.no), some (.no), none, none, some (.cond false), some (.no)]) (kt := [0, 1, 5]) (ko := []) (T' := [(0, .int .i64 op0), (1, .int .i64 kid1), (5, .bool false)]) (O' := []) (by kernel_rfl) (And.intro (neT hb_1_0 : (op0 == 5) ≠ true) (And.intro (neT hb_1_0 : (op0 == 5) ≠ true) (And.intro hb_1_0 trivial))) (by kernel_rfl) (by kernel_rfl) ?_
      obtain rfl := Option.some.inj h
      exact Into.mk
  · clear hj_2
    refine seqQ_norm ?_
    rcases itesome h with ⟨hb_3, h⟩ | ⟨hb_3, h⟩
    · refine Wp.condT (b := v_1) (by kernel_rfl) (by kernel_rfl) hb_3 ?_
      refine Wp.seqN (by kernel_rfl) ?_
      refine Wp.reg tiok mix hc (by kernel_rfl) (ah := none) (rs := [some (.no)]) (kt := [4]) (ko := []) (T' := [(4, .int .i64 2)]) (O' := []) (by kernel_rfl) trivial (by kernel_rfl) (by kernel_rfl) ?_
      refine seqQ_norm ?_
      refine Wp.retN (by kernel_rfl) ?_
      refine blockQ_ret ?_
      refine seqQ_ret ?_
      obtain rfl := Option.some.inj h
      exact RetQ.ret (fl := [true]) (by kernel_rfl)
    · refine Wp.condF (b := v_1) (by kernel_rfl) (by kernel_rfl) hb_3 ?_
      refine Wp.seqN (by kernel_rfl) ?_
      obtain ⟨v_4, hj_5, h⟩ := bsome h
      refine Wp.into (x := .normal) (mkS [(12, .bool v_4)] []) ?_ ?_
      · replace h := hj_5
        rcases itesome h with ⟨hb_3_0, h⟩ | ⟨hb_3_0, h⟩
        · rcases itesome h with ⟨hb_3_1, h⟩ | ⟨hb_3_1, h⟩
          · refine Wp.reg tiok mix hc (by kernel_rfl) (ah := none) (rs := [some (.no), some (.no), some (.no), some (.no), some (.no), some (.cond true), some (.no), none, none, some (.cond true), some (.no), none, none, none, none, none, none, some (.cond true), some (.no)]) (kt := [12]) (ko := []) (T' := [(12, .bool true)]) (O' := []) (by kernel_rfl) (And.intro hb_3_0 (And.intro hb_3_0 (And.intro hb_3_0 (And.intro (neF hb_3_1 : (decide (kid1 > 0)) ≠ false) (And.intro (neF hb_3_1 : (decide (kid1 > 0)) ≠ false) (And.intro hb_3_1 (And.intro (neF (rfl : true = true) : true ≠ false) (And.intro (neF (rfl : true = true) : true ≠ false) (And.intro (neF (rfl : true = true) : true ≠ false) (And.intro (neF (rfl : true = true) : true ≠ false) (And.intro (rfl : true = true) trivial))))))))))) (by kernel_rfl) (by kernel_rfl) ?_
            obtain rfl := Option.some.inj h
            exact Into.mk
          · rcases itesome h with ⟨hb_3_2, h⟩ | ⟨hb_3_2, h⟩
            · refine Wp.reg tiok mix hc (by kernel_rfl) (ah := none) (rs := [some (.no), some (.no), some (.no), some (.no), some (.no), some (.cond true), some (.no), some (.no), some (.no), some (.cond false), some (.no), none, none, none, none, none, none, some (.cond true), some (.no)]) (kt := [12]) (ko := []) (T' := [(12, .bool true)]) (O' := []) (by kernel_rfl) (And.intro hb_3_0 (And.intro hb_3_0 (And.intro hb_3_0 (And.intro hb_3_1 (And.intro hb_3_1 (And.intro hb_3_1 (And.intro (neF hb_3_2 : (op0 == 9) ≠ false) (And.intro (neF hb_3_2 : (op0 == 9) ≠ false) (And.intro (neF hb_3_2 : (op0 == 9) ≠ false) (And.intro (neF hb_3_2 : (op0 == 9) ≠ false) (And.intro hb_3_2 trivial))))))))))) (by kernel_rfl) (by kernel_rfl) ?_
              obtain rfl := Option.some.inj h
              exact Into.mk
            · rcases itesome h with ⟨hb_3_3, h⟩ | ⟨hb_3_3, h⟩
              · refine Wp.reg tiok mix hc (by kernel_rfl) (ah := none) (rs := [some (.no), some (.no), some (.no), some (.no), some (.no), some (.cond true), some (.no), some (.no), some (.no), some (.cond false), some (.no), some (.no), some (.no), some (.no), some (.no), some (.no), some (.cond true), some (.cond false), some (.no)]) (kt := [12]) (ko := []) (T' := [(12, .bool (kid1 == 1))]) (O' := []) (by kernel_rfl) (And.intro hb_3_0 (And.intro hb_3_0 (And.intro hb_3_0 (And.intro hb_3_1 (And.intro hb_3_1 (And.intro hb_3_1 (And.intro hb_3_2 (And.intro hb_3_2 (And.intro hb_3_2 (And.intro hb_3_3 (And.intro hb_3_3 (And.intro hb_3_2 (And.intro hb_3_3 (And.intro hb_3_2 trivial)))))))))))))) (by kernel_rfl) (by kernel_rfl) ?_
                obtain rfl := Option.some.inj h
                exact Into.mk
              · refine Wp.reg tiok mix hc (by kernel_rfl) (ah := none) (rs := [some (.no), some (.no), some (.no), some (.no), some (.no), some (.cond true), some (.no), some (.no), some (.no), some (.cond false), some (.no), some (.no), some (.no), some (.no), none, none, some (.cond false), some (.cond false), some (.no)]) (kt := [12]) (ko := []) (T' := [(12, .bool false)]) (O' := []) (by kernel_rfl) (And.intro hb_3_0 (And.intro hb_3_0 (And.intro hb_3_0 (And.intro hb_3_1 (And.intro hb_3_1 (And.intro hb_3_1 (And.intro hb_3_2 (And.intro hb_3_2 (And.intro hb_3_2 (And.intro (neT hb_3_3 : (op0 == 12) ≠ true) (And.intro (neT hb_3_3 : (op0 == 12) ≠ true) (And.intro hb_3_2 (And.intro hb_3_3 (And.intro hb_3_2 trivial)))))))))))))) (by kernel_rfl) (by kernel_rfl) ?_
                obtain rfl := Option.some.inj h
                exact Into.mk
        · rcases itesome h with ⟨hb_3_1, h⟩ | ⟨hb_3_1, h⟩
          · refine Wp.reg tiok mix hc (by kernel_rfl) (ah := none) (rs := [some (.no), some (.no), some (.no), none, none, some (.cond false), some (.no), some (.no), some (.no), some (.cond false), some (.no), none, none, none, none, none, none, some (.cond true), some (.no)]) (kt := [12]) (ko := []) (T' := [(12, .bool true)]) (O' := []) (by kernel_rfl) (And.intro (neT hb_3_0 : (op0 == 8) ≠ true) (And.intro (neT hb_3_0 : (op0 == 8) ≠ true) (And.intro hb_3_0 (And.intro (rfl : false = false) (And.intro (rfl : false = false) (And.intro (rfl : false = false) (And.intro (neF hb_3_1 : (op0 == 9) ≠ false) (And.intro (neF hb_3_1 : (op0 == 9) ≠ false) (And.intro (neF hb_3_1 : (op0 == 9) ≠ false) (And.intro (neF hb_3_1 : (op0 == 9) ≠ false) (And.intro hb_3_1 trivial))))))))))) (by kernel_rfl) (by kernel_rfl) ?_
            obtain rfl := Option.some.inj h
            exact Into.mk
          · rcases itesome h with ⟨hb_3_2, h⟩ | ⟨hb_3_2, h⟩
            · refine Wp.reg tiok mix hc (by kernel_rfl) (ah := none) (rs := [some (.no), some (.no), some (.no), none, none, some (.cond false), some (.no), some (.no), some (.no), some (.cond false), some (.no), some (.no), some (.no), some (.no), some (.no), some (.no), some (.cond true), some (.cond false), some (.no)]) (kt := [12]) (ko := []) (T' := [(12, .bool (kid1 == 1))]) (O' := []) (by kernel_rfl) (And.intro (neT hb_3_0 : (op0 == 8) ≠ true) (And.intro (neT hb_3_0 : (op0 == 8) ≠ true) (And.intro hb_3_0 (And.intro (rfl : false = false) (And.intro (rfl : false = false) (And.intro (rfl : false = false) (And.intro hb_3_1 (And.intro hb_3_1 (And.intro hb_3_1 (And.intro hb_3_2 (And.intro hb_3_2 (And.intro hb_3_1 (And.intro hb_3_2 (And.intro hb_3_1 trivial)))))))))))))) (by kernel_rfl) (by kernel_rfl) ?_
              obtain rfl := Option.some.inj h
              exact Into.mk
            · refine Wp.reg tiok mix hc (by kernel_rfl) (ah := none) (rs := [some (.no), some (.no), some (.no), none, none, some (.cond false), some (.no), some (.no), some (.no), some (.cond false), some (.no), some (.no), some (.no), some (.no), none, none, some (.cond false), some (.cond false), some (.no)]) (kt := [12]) (ko := []) (T' := [(12, .bool false)]) (O' := []) (by kernel_rfl) (And.intro (neT hb_3_0 : (op0 == 8) ≠ true) (And.intro (neT hb_3_0 : (op0 == 8) ≠ true) (And.intro hb_3_0 (And.intro (rfl : false = false) (And.intro (rfl : false = false) (And.intro (rfl : false = false) (And.intro hb_3_1 (And.intro hb_3_1 (And.intro hb_3_1 (And.intro (neT hb_3_2 : (op0 == 12) ≠ true) (And.intro (neT hb_3_2 : (op0 == 12) ≠ true) (And.intro hb_3_1 (And.intro hb_3_2 (And.intro hb_3_1 trivial)))))))))))))) (by kernel_rfl) (by kernel_rfl) ?_
              obtain rfl := Option.some.inj h
              exact Into.mk
      · clear hj_5
        refine seqQ_norm ?_
        rcases itesome h with ⟨hb_6, h⟩ | ⟨hb_6, h⟩
        · refine Wp.condT (b := v_4) (by kernel_rfl) (by kernel_rfl) hb_6 ?_
          refine Wp.seqN (by kernel_rfl) ?_
          refine Wp.reg tiok mix hc (by kernel_rfl) (ah := none) (rs := [some (.no)]) (kt := [4]) (ko := []) (T' := [(4, .int .i64 1)]) (O' := []) (by kernel_rfl) trivial (by kernel_rfl) (by kernel_rfl) ?_
          refine seqQ_norm ?_
          refine Wp.retN (by kernel_rfl) ?_
          refine blockQ_ret ?_
          refine seqQ_ret ?_
          obtain rfl := Option.some.inj h
          exact RetQ.ret (fl := [true]) (by kernel_rfl)
        · refine Wp.condF (b := v_4) (by kernel_rfl) (by kernel_rfl) hb_6 ?_
          refine Wp.skipN (by kernel_rfl) ?_
          refine blockQ_norm ?_
          refine seqQ_norm ?_
          refine Wp.seqN (by kernel_rfl) ?_
          refine Wp.reg tiok mix hc (by kernel_rfl) (ah := none) (rs := [some (.no)]) (kt := [4]) (ko := []) (T' := [(4, .int .i64 0)]) (O' := []) (by kernel_rfl) trivial (by kernel_rfl) (by kernel_rfl) ?_
          refine seqQ_norm ?_
          refine Wp.retN (by kernel_rfl) ?_
          obtain rfl := Option.some.inj h
          exact RetQ.ret (fl := [true]) (by kernel_rfl)
def spec_l2Term_F1 (c : Ctx) : (Unit) ⊕ (Bool) → Exit → AState → Prop
  | .inl _ => Into c (.exit 0) (mkS [] [])
  | .inr r => RetE TIx Try.f97 [] (.bool r)
mutual
def spec_l2Term (p : GTerm × Int × Int × Bool) : Option (Bool) :=
  match p with
  | (t0, n1, size2, closed3) =>
    (spec_l2Node (t0, n1, size2, closed3)) >>= fun r_1_4 =>
    if r_1_4 = true then
      (spec_l2Term_l0 (t0, n1, size2, closed3, 0)) >>= fun fl => match fl with
      | .inl () =>
        some true
      | .inr r =>
        some r
    else
      some false
  partial_fixpoint
def spec_l2Term_l0 (p : GTerm × Int × Int × Bool × Int) : Option ((Unit) ⊕ (Bool)) :=
  match p with
  | (t0, n1, size2, closed3, k_4) =>
    if (decide (k_4 < (t0.fKids.length : Int))) = true then
      (idx t0.fKids k_4) >>= fun e_6_3 =>
      (spec_l2Adds (t0.fOp, k_4)) >>= fun r_6_9 =>
      (spec_l2Term (e_6_3, (wr (n1 + r_6_9)), size2, closed3)) >>= fun r_6_13 =>
      if r_6_13 = true then
        spec_l2Term_l0 (t0, n1, size2, closed3, (wr (k_4 + 1)))
      else
        some (.inr false)
    else
      some (.inl ())
  partial_fixpoint
end
def M_spec_l2Term (p : GTerm × Int × Int × Bool) (r : Bool) : Prop :=
  match p with
  | (t0, n1, size2, closed3) => FnSound Try.prog 97 [.agg [.int .i64 t0.fOp, .int .i64 t0.fN, .sl (List.map I t0.fType), .sl (List.map GTerm_S t0.fKids)], .int .i64 n1, .int .i64 size2, .bool closed3] (.bool r) []
def M_spec_l2Term_l0 (p : GTerm × Int × Int × Bool × Int) (fl : (Unit) ⊕ (Bool)) : Prop :=
  match p with
  | (t0, n1, size2, closed3, k_4) => ∀ c : Ctx, c.nt = 38 → WpL Try.prog c (cl (cl (cr (cl (cr (cr B97)))))) (spec_l2Term_F1 c fl) (mkS [(1, .int .i64 n1), (2, .int .i64 size2), (3, .bool closed3), (4, .ra 1 0), (9, .int .i64 k_4)] [(1, .box [.int .i64 t0.fOp, .int .i64 t0.fN, .sl (List.map I t0.fType), .sl (List.map GTerm_S t0.fKids)])])
theorem spec_l2Term_all : (∀ p r, spec_l2Term p = some r → M_spec_l2Term p r) ∧ (∀ p r, spec_l2Term_l0 p = some r → M_spec_l2Term_l0 p r) := by
  refine spec_l2Term.mutual_partial_correctness M_spec_l2Term M_spec_l2Term_l0 ?_ ?_
  · rintro spec_l2Term_l0_f spec_l2Term_l0_ih ⟨t0, n1, size2, closed3⟩ r h
    show FnSound Try.prog 97 [.agg [.int .i64 t0.fOp, .int .i64 t0.fN, .sl (List.map I t0.fType), .sl (List.map GTerm_S t0.fKids)], .int .i64 n1, .int .i64 size2, .bool closed3] (.bool r) []
    refine FnSound.body0 tiok (fn := Try.f97) (code := B97) (by kernel_rfl) (by kernel_rfl) (by kernel_rfl) (by kernel_rfl) (nt := 38) (by kernel_rfl) (by kernel_rfl) (T := [(0, .agg [.int .i64 t0.fOp, .int .i64 t0.fN, .sl (List.map I t0.fType), .sl (List.map GTerm_S t0.fKids)]), (1, .int .i64 n1), (2, .int .i64 size2), (3, .bool closed3)]) (O := []) (by kernel_rfl) (by kernel_rfl) (fun c hc => ?_)
    refine Wp.seqN (by kernel_rfl) ?_
    refine Wp.reg tiok mix hc (by kernel_rfl) (ah := none) (rs := [some (.new 1), some (.no)]) (kt := [1, 2, 3, 4]) (ko := [1]) (T' := [(1, .int .i64 n1), (2, .int .i64 size2), (3, .bool closed3), (4, .ra 1 0)]) (O' := [(1, .box [.int .i64 t0.fOp, .int .i64 t0.fN, .sl (List.map I t0.fType), .sl (List.map GTerm_S t0.fKids)])]) (by kernel_rfl) trivial (by kernel_rfl) (by kernel_rfl) ?_
    refine seqQ_norm ?_
    refine Wp.seqN (by kernel_rfl) ?_
    refine Wp.seqN (by kernel_rfl) ?_
    obtain ⟨r_1_4, hr_1_4, h⟩ := bsome h
    refine Wp.reg tiok mix hc (by kernel_rfl) (ah := none) (rs := [some (.no), some (.no), some (.no), some (.no), some (.call (.bool r_1_4) [] 1), some (.no)]) (kt := [1, 2, 3, 4, 15]) (ko := [1]) (T' := [(1, .int .i64 n1), (2, .int .i64 size2), (3, .bool closed3), (4, .ra 1 0), (15, .bool (!r_1_4))]) (O' := [(1, .box [.int .i64 t0.fOp, .int .i64 t0.fN, .sl (List.map I t0.fType), .sl (List.map GTerm_S t0.fKids)])]) (by kernel_rfl) (And.intro (spec_l2Node_s _ _ hr_1_4) (And.intro bod_122 (And.intro (Or.inl rfl : ([] : List Nat) = [] ∨ noSh (.bool r_1_4) = true) trivial))) (by kernel_rfl) (by kernel_rfl) ?_
    refine seqQ_norm ?_
    rcases itesome h with ⟨hb_1, h⟩ | ⟨hb_1, h⟩
    · refine Wp.condF (b := (!r_1_4)) (by kernel_rfl) (by kernel_rfl) (nF hb_1) ?_
      refine Wp.skipN (by kernel_rfl) ?_
      refine seqQ_norm ?_
      refine Wp.seqN (by kernel_rfl) ?_
      refine Wp.seqN (by kernel_rfl) ?_
      refine Wp.reg tiok mix hc (by kernel_rfl) (ah := none) (rs := [some (.no)]) (kt := [1, 2, 3, 4, 9]) (ko := [1]) (T' := [(1, .int .i64 n1), (2, .int .i64 size2), (3, .bool closed3), (4, .ra 1 0), (9, .int .i64 0)]) (O' := [(1, .box [.int .i64 t0.fOp, .int .i64 t0.fN, .sl (List.map I t0.fType), .sl (List.map GTerm_S t0.fKids)])]) (by kernel_rfl) trivial (by kernel_rfl) (by kernel_rfl) ?_
      refine seqQ_norm ?_
      refine Wp.blockN (i := 0) (by kernel_rfl) ?_
      obtain ⟨fl, hl_7, h⟩ := bsome h
      have hL := spec_l2Term_l0_ih _ _ hl_7 c hc
      refine Wp.loopN (by kernel_rfl) ?_
      rcases fl with ⟨⟩ | r
      · refine WpL.into (e := (.exit 0)) (mkS [] []) hL ?_
        refine blockQ_hit ?_
        refine seqQ_norm ?_
        refine Wp.seqN (by kernel_rfl) ?_
        refine Wp.reg tiok mix hc (by kernel_rfl) (ah := none) (rs := [some (.no)]) (kt := [8]) (ko := []) (T' := [(8, .bool true)]) (O' := []) (by kernel_rfl) trivial (by kernel_rfl) (by kernel_rfl) ?_
        refine seqQ_norm ?_
        refine Wp.retN (by kernel_rfl) ?_
        obtain rfl := Option.some.inj h
        exact RetQ.ret (fl := [true]) (by kernel_rfl)
      · refine WpL.mono hL ?_
        rintro _ _ ⟨rfl, hfin⟩
        refine blockQ_ret ?_
        refine seqQ_ret ?_
        obtain rfl := Option.some.inj h
        exact ⟨.inl rfl, hfin⟩
    · refine Wp.condT (b := (!r_1_4)) (by kernel_rfl) (by kernel_rfl) (nT hb_1) ?_
      refine Wp.seqN (by kernel_rfl) ?_
      refine Wp.reg tiok mix hc (by kernel_rfl) (ah := none) (rs := [some (.no)]) (kt := [8]) (ko := []) (T' := [(8, .bool false)]) (O' := []) (by kernel_rfl) trivial (by kernel_rfl) (by kernel_rfl) ?_
      refine seqQ_norm ?_
      refine Wp.retN (by kernel_rfl) ?_
      refine seqQ_ret ?_
      obtain rfl := Option.some.inj h
      exact RetQ.ret (fl := [true]) (by kernel_rfl)
  · rintro spec_l2Term_f spec_l2Term_l0_f spec_l2Term_ih spec_l2Term_l0_ih ⟨t0, n1, size2, closed3, k_4⟩ r h
    intro c hc
    show WpL Try.prog c (cl (cl (cr (cl (cr (cr B97)))))) (spec_l2Term_F1 c r) (mkS [(1, .int .i64 n1), (2, .int .i64 size2), (3, .bool closed3), (4, .ra 1 0), (9, .int .i64 k_4)] [(1, .box [.int .i64 t0.fOp, .int .i64 t0.fN, .sl (List.map I t0.fType), .sl (List.map GTerm_S t0.fKids)])])
    refine WpL.step ?_
    refine Wp.seqN (by kernel_rfl) ?_
    refine Wp.seqN (by kernel_rfl) ?_
    refine Wp.reg tiok mix hc (by kernel_rfl) (ah := none) (rs := [some (.no), some (.no), some (.no), some (.eqv (.no) ⟨[(19, .int .i64 (t0.fKids.length : Int))], [], []⟩), some (.no)]) (kt := [1, 2, 3, 4, 9, 20]) (ko := [1]) (T' := [(1, .int .i64 n1), (2, .int .i64 size2), (3, .bool closed3), (4, .ra 1 0), (9, .int .i64 k_4), (20, .bool (decide (k_4 < (t0.fKids.length : Int))))]) (O' := [(1, .box [.int .i64 t0.fOp, .int .i64 t0.fN, .sl (List.map I t0.fType), .sl (List.map GTerm_S t0.fKids)])]) (by kernel_rfl) (And.intro (lenT (d := 19) GTerm_S t0.fKids) trivial) (by kernel_rfl) (by kernel_rfl) ?_
    refine seqQ_norm ?_
    rcases itesome h with ⟨hb_5, h⟩ | ⟨hb_5, h⟩
    · refine Wp.condT (b := (decide (k_4 < (t0.fKids.length : Int)))) (by kernel_rfl) (by kernel_rfl) hb_5 ?_
      refine Wp.skipN (by kernel_rfl) ?_
      refine seqQ_norm ?_
      refine Wp.seqN (by kernel_rfl) ?_
      refine Wp.blockN (i := 1) (by kernel_rfl) ?_
      refine Wp.seqN (by kernel_rfl) ?_
      obtain ⟨e_6_3, hi_6_3, h⟩ := bsome h
      obtain ⟨r_6_9, hr_6_9, h⟩ := bsome h
      obtain ⟨r_6_13, hr_6_13, h⟩ := bsome h
      refine Wp.reg tiok mix hc (by kernel_rfl) (ah := (some [[], [0], [], [0, 1, 2], [0, 1, 2, 3], [], [], [6], [], [6, 7, 8], [5, 6, 7, 8, 9], [], [], [0, 1, 2, 3, 4, 5, 6, 7, 8, 9, 10, 11, 12], [0, 1, 2, 3, 4, 5, 6, 7, 8, 9, 10, 11, 12, 13]])) (rs := [some (.no), some (.no), some (.no), some (.el (.agg [.int .i64 e_6_3.fOp, .int .i64 e_6_3.fN, .sl (List.map I e_6_3.fType), .sl (List.map GTerm_S e_6_3.fKids)])), some (.no), some (.no), some (.no), some (.no), some (.no), some (.call (.int .i64 r_6_9) [] 1), some (.no), some (.no), some (.no), some (.call (.bool r_6_13) [] 1), some (.no)]) (kt := [1, 2, 3, 4, 9, 37]) (ko := [1]) (T' := [(1, .int .i64 n1), (2, .int .i64 size2), (3, .bool closed3), (4, .ra 1 0), (9, .int .i64 k_4), (37, .bool (!r_6_13))]) (O' := [(1, .box [.int .i64 t0.fOp, .int .i64 t0.fN, .sl (List.map I t0.fType), .sl (List.map GTerm_S t0.fKids)])]) (by kernel_rfl) (And.intro (idx_sl (enc := GTerm_S) (x := .agg [.int .i64 e_6_3.fOp, .int .i64 e_6_3.fN, .sl (List.map I e_6_3.fType), .sl (List.map GTerm_S e_6_3.fKids)]) hi_6_3 (eq_GTerm_S e_6_3)) (And.intro (spec_l2Adds_s _ _ hr_6_9) (And.intro bod_113 (And.intro (Or.inl rfl : ([] : List Nat) = [] ∨ noSh (.int .i64 r_6_9) = true) (And.intro (spec_l2Term_ih _ _ hr_6_13) (And.intro bod_97 (And.intro (Or.inl rfl : ([] : List Nat) = [] ∨ noSh (.bool r_6_13) = true) trivial))))))) (by kernel_rfl) (by kernel_rfl) ?_
      refine seqQ_norm ?_
      rcases itesome h with ⟨hb_6, h⟩ | ⟨hb_6, h⟩
      · refine Wp.condF (b := (!r_6_13)) (by kernel_rfl) (by kernel_rfl) (nF hb_6) ?_
        refine Wp.skipN (by kernel_rfl) ?_
        refine blockQ_norm ?_
        refine seqQ_norm ?_
        refine Wp.reg tiok mix hc (by kernel_rfl) (ah := none) (rs := [some (.no), some (.no), some (.no)]) (kt := [1, 2, 3, 4, 9]) (ko := [1]) (T' := [(1, .int .i64 n1), (2, .int .i64 size2), (3, .bool closed3), (4, .ra 1 0), (9, .int .i64 (wr (k_4 + 1)))]) (O' := [(1, .box [.int .i64 t0.fOp, .int .i64 t0.fN, .sl (List.map I t0.fType), .sl (List.map GTerm_S t0.fKids)])]) (by kernel_rfl) trivial (by kernel_rfl) (by kernel_rfl) ?_
        refine loopQ_norm ?_
        exact (spec_l2Term_l0_ih _ _ h c hc)
      · refine Wp.condT (b := (!r_6_13)) (by kernel_rfl) (by kernel_rfl) (nT hb_6) ?_
        refine Wp.seqN (by kernel_rfl) ?_
        refine Wp.reg tiok mix hc (by kernel_rfl) (ah := none) (rs := [some (.no)]) (kt := [8]) (ko := []) (T' := [(8, .bool false)]) (O' := []) (by kernel_rfl) trivial (by kernel_rfl) (by kernel_rfl) ?_
        refine seqQ_norm ?_
        refine Wp.retN (by kernel_rfl) ?_
        refine blockQ_ret ?_
        refine seqQ_ret ?_
        refine loopQ_ret ?_
        obtain rfl := Option.some.inj h
        exact RetE.ret (fl := [true]) (by kernel_rfl)
    · refine Wp.condF (b := (decide (k_4 < (t0.fKids.length : Int)))) (by kernel_rfl) (by kernel_rfl) hb_5 ?_
      refine Wp.exitN (i := 0) (by kernel_rfl) ?_
      refine seqQ_exit ?_
      refine loopQ_exit ?_
      obtain rfl := Option.some.inj h
      exact Into.view (fun a w hv => SRx.renL [] hv (by kernel_rfl) (by kernel_rfl) (by kernel_rfl))
theorem spec_l2Term_s : ∀ p r, spec_l2Term p = some r → M_spec_l2Term p r := spec_l2Term_all.1
theorem spec_l2Term_l0_s : ∀ p r, spec_l2Term_l0 p = some r → M_spec_l2Term_l0 p r := spec_l2Term_all.2
def spec_IsWritten (t0 : GTerm) : Option (Bool) :=
    (
      (spec_l2Left (t0, 400)) >>= fun r_1_1 =>
      if (decide (r_1_1 ≥ 0)) = true then
        (spec_l2Term (t0, 8, 16, false)) >>= fun r_1_5 =>
        some (r_1_5)
      else
        some (false)
    ) >>= fun v_1 =>
    some v_1
def M_spec_IsWritten (t0 : GTerm) (r : Bool) : Prop :=
  FnSound Try.prog 58 [.agg [.int .i64 t0.fOp, .int .i64 t0.fN, .sl (List.map I t0.fType), .sl (List.map GTerm_S t0.fKids)]] (.bool r) []
theorem spec_IsWritten_s : ∀ p r, spec_IsWritten p = some r → M_spec_IsWritten p r := by
  rintro t0 r h
  unfold spec_IsWritten at h
  show FnSound Try.prog 58 [.agg [.int .i64 t0.fOp, .int .i64 t0.fN, .sl (List.map I t0.fType), .sl (List.map GTerm_S t0.fKids)]] (.bool r) []
  refine FnSound.body0 tiok (fn := Try.f58) (code := B58) (by kernel_rfl) (by kernel_rfl) (by kernel_rfl) (by kernel_rfl) (nt := 10) (by kernel_rfl) (by kernel_rfl) (T := [(0, .agg [.int .i64 t0.fOp, .int .i64 t0.fN, .sl (List.map I t0.fType), .sl (List.map GTerm_S t0.fKids)])]) (O := []) (by kernel_rfl) (by kernel_rfl) (fun c hc => ?_)
  refine Wp.seqN (by kernel_rfl) ?_
  refine Wp.reg tiok mix hc (by kernel_rfl) (ah := none) (rs := [some (.new 1), some (.no)]) (kt := [1]) (ko := [1]) (T' := [(1, .ra 1 0)]) (O' := [(1, .box [.int .i64 t0.fOp, .int .i64 t0.fN, .sl (List.map I t0.fType), .sl (List.map GTerm_S t0.fKids)])]) (by kernel_rfl) trivial (by kernel_rfl) (by kernel_rfl) ?_
  refine seqQ_norm ?_
  refine Wp.seqN (by kernel_rfl) ?_
  obtain ⟨v_1, hj_2, h⟩ := bsome h
  refine Wp.into (x := .normal) (mkS [(2, .bool v_1)] []) ?_ ?_
  · replace h := hj_2
    obtain ⟨r_1_1, hr_1_1, h⟩ := bsome h
    rcases itesome h with ⟨hb_1_0, h⟩ | ⟨hb_1_0, h⟩
    · obtain ⟨r_1_5, hr_1_5, h⟩ := bsome h
      refine Wp.reg tiok mix hc (by kernel_rfl) (ah := none) (rs := [some (.no), some (.call (.int .i64 r_1_1) [] 1), some (.no), some (.no), some (.no), some (.call (.bool r_1_5) [] 1), some (.cond true), some (.no)]) (kt := [2]) (ko := []) (T' := [(2, .bool r_1_5)]) (O' := []) (by kernel_rfl) (And.intro (spec_l2Left_s _ _ hr_1_1) (And.intro bod_79 (And.intro (Or.inl rfl : ([] : List Nat) = [] ∨ noSh (.int .i64 r_1_1) = true) (And.intro hb_1_0 (And.intro hb_1_0 (And.intro (spec_l2Term_s _ _ hr_1_5) (And.intro bod_97 (And.intro (Or.inl rfl : ([] : List Nat) = [] ∨ noSh (.bool r_1_5) = true) (And.intro hb_1_0 trivial))))))))) (by kernel_rfl) (by kernel_rfl) ?_
      obtain rfl := Option.some.inj h
      exact Into.mk
    · refine Wp.reg tiok mix hc (by kernel_rfl) (ah := none) (rs := [some (.no), some (.call (.int .i64 r_1_1) [] 1), some (.no), some (.no), none, none, some (.cond false), some (.no)]) (kt := [2]) (ko := []) (T' := [(2, .bool false)]) (O' := []) (by kernel_rfl) (And.intro (spec_l2Left_s _ _ hr_1_1) (And.intro bod_79 (And.intro (Or.inl rfl : ([] : List Nat) = [] ∨ noSh (.int .i64 r_1_1) = true) (And.intro (neT hb_1_0 : (decide (r_1_1 ≥ 0)) ≠ true) (And.intro (neT hb_1_0 : (decide (r_1_1 ≥ 0)) ≠ true) (And.intro hb_1_0 trivial)))))) (by kernel_rfl) (by kernel_rfl) ?_
      obtain rfl := Option.some.inj h
      exact Into.mk
  · clear hj_2
    refine seqQ_norm ?_
    refine Wp.retN (by kernel_rfl) ?_
    obtain rfl := Option.some.inj h
    exact RetQ.ret (fl := [true]) (by kernel_rfl)
def spec_l4Redex (t0 : GTerm) : Option (Bool) :=
    if ((t0.fKids.length : Int) == 0) = true then
      some false
    else
      (idx t0.fKids 0) >>= fun e_3_2 =>
      if (t0.fOp == 2) = true then
        (
          if (e_3_2.fOp == 1) = true then
            (idx t0.fKids 1) >>= fun e_6_5 =>
            some ((e_6_5.fOp == 1))
          else
            some (false)
        ) >>= fun v_3 =>
        some v_3
      else
        if (t0.fOp == 3) = true then
          some (e_3_2.fOp == 1)
        else
          if (t0.fOp == 10) = true then
            some (e_3_2.fOp == 9)
          else
            if (t0.fOp == 5) = true then
              some (e_3_2.fOp == 4)
            else
              if (t0.fOp == 8) = true then
                (
                  if (e_3_2.fOp == 6) = true then
                    some (true)
                  else
                    some ((e_3_2.fOp == 7))
                ) >>= fun v_9 =>
                some v_9
              else
                if (t0.fOp == 12) = true then
                  some (e_3_2.fOp == 11)
                else
                  some false
def M_spec_l4Redex (t0 : GTerm) (r : Bool) : Prop :=
  FnSound Try.prog 102 [.agg [.int .i64 t0.fOp, .int .i64 t0.fN, .sl (List.map I t0.fType), .sl (List.map GTerm_S t0.fKids)]] (.bool r) []
theorem spec_l4Redex_s : ∀ p r, spec_l4Redex p = some r → M_spec_l4Redex p r := by
  rintro t0 r h
  unfold spec_l4Redex at h
  show FnSound Try.prog 102 [.agg [.int .i64 t0.fOp, .int .i64 t0.fN, .sl (List.map I t0.fType), .sl (List.map GTerm_S t0.fKids)]] (.bool r) []
  refine FnSound.body0 tiok (fn := Try.f102) (code := B102) (by kernel_rfl) (by kernel_rfl) (by kernel_rfl) (by kernel_rfl) (nt := 51) (by kernel_rfl) (by kernel_rfl) (T := [(0, .agg [.int .i64 t0.fOp, .int .i64 t0.fN, .sl (List.map I t0.fType), .sl (List.map GTerm_S t0.fKids)])]) (O := []) (by kernel_rfl) (by kernel_rfl) (fun c hc => ?_)
  refine Wp.seqN (by kernel_rfl) ?_
  refine Wp.reg tiok mix hc (by kernel_rfl) (ah := none) (rs := [some (.new 1), some (.no)]) (kt := [1]) (ko := [1]) (T' := [(1, .ra 1 0)]) (O' := [(1, .box [.int .i64 t0.fOp, .int .i64 t0.fN, .sl (List.map I t0.fType), .sl (List.map GTerm_S t0.fKids)])]) (by kernel_rfl) trivial (by kernel_rfl) (by kernel_rfl) ?_
  refine seqQ_norm ?_
  refine Wp.seqN (by kernel_rfl) ?_
  refine Wp.seqN (by kernel_rfl) ?_
  refine Wp.reg tiok mix hc (by kernel_rfl) (ah := none) (rs := [some (.no), some (.no), some (.eqv (.no) ⟨[(6, .int .i64 (t0.fKids.length : Int))], [], []⟩), some (.no)]) (kt := [1, 7]) (ko := [1]) (T' := [(1, .ra 1 0), (7, .bool ((t0.fKids.length : Int) == 0))]) (O' := [(1, .box [.int .i64 t0.fOp, .int .i64 t0.fN, .sl (List.map I t0.fType), .sl (List.map GTerm_S t0.fKids)])]) (by kernel_rfl) (And.intro (lenT (d := 6) GTerm_S t0.fKids) trivial) (by kernel_rfl) (by kernel_rfl) ?_
  refine seqQ_norm ?_
  rcases itesome h with ⟨hb_1, h⟩ | ⟨hb_1, h⟩
  · refine Wp.condT (b := ((t0.fKids.length : Int) == 0)) (by kernel_rfl) (by kernel_rfl) hb_1 ?_
    refine Wp.seqN (by kernel_rfl) ?_
    refine Wp.reg tiok mix hc (by kernel_rfl) (ah := none) (rs := [some (.no)]) (kt := [2]) (ko := []) (T' := [(2, .bool false)]) (O' := []) (by kernel_rfl) trivial (by kernel_rfl) (by kernel_rfl) ?_
    refine seqQ_norm ?_
    refine Wp.retN (by kernel_rfl) ?_
    refine seqQ_ret ?_
    obtain rfl := Option.some.inj h
    exact RetQ.ret (fl := [true]) (by kernel_rfl)
  · refine Wp.condF (b := ((t0.fKids.length : Int) == 0)) (by kernel_rfl) (by kernel_rfl) hb_1 ?_
    refine Wp.skipN (by kernel_rfl) ?_
    refine seqQ_norm ?_
    refine Wp.seqN (by kernel_rfl) ?_
    obtain ⟨e_3_2, hi_3_2, h⟩ := bsome h
    refine Wp.reg tiok mix hc (by kernel_rfl) (ah := none) (rs := [some (.no), some (.no), some (.el (.agg [.int .i64 e_3_2.fOp, .int .i64 e_3_2.fN, .sl (List.map I e_3_2.fType), .sl (List.map GTerm_S e_3_2.fKids)])), some (.no), some (.no), some (.no)]) (kt := [1, 3]) (ko := [1]) (T' := [(1, .ra 1 0), (3, .int .i64 e_3_2.fOp)]) (O' := [(1, .box [.int .i64 t0.fOp, .int .i64 t0.fN, .sl (List.map I t0.fType), .sl (List.map GTerm_S t0.fKids)])]) (by kernel_rfl) (And.intro (idx_sl (enc := GTerm_S) (x := .agg [.int .i64 e_3_2.fOp, .int .i64 e_3_2.fN, .sl (List.map I e_3_2.fType), .sl (List.map GTerm_S e_3_2.fKids)]) hi_3_2 (eq_GTerm_S e_3_2)) trivial) (by kernel_rfl) (by kernel_rfl) ?_
    refine seqQ_norm ?_
    refine Wp.seqN (by kernel_rfl) ?_
    refine Wp.seqN (by kernel_rfl) ?_
    refine Wp.reg tiok mix hc (by kernel_rfl) (ah := none) (rs := [some (.no), some (.no)]) (kt := [1, 3, 14]) (ko := [1]) (T' := [(1, .ra 1 0), (3, .int .i64 e_3_2.fOp), (14, .int .i64 t0.fOp)]) (O' := [(1, .box [.int .i64 t0.fOp, .int .i64 t0.fN, .sl (List.map I t0.fType), .sl (List.map GTerm_S t0.fKids)])]) (by kernel_rfl) trivial (by kernel_rfl) (by kernel_rfl) ?_
    refine seqQ_norm ?_
    refine Wp.blockN (i := 0) (by kernel_rfl) ?_
    refine Wp.seqN (by kernel_rfl) ?_
    refine Wp.reg tiok mix hc (by kernel_rfl) (ah := none) (rs := [some (.no), some (.no)]) (kt := [1, 3, 14, 15]) (ko := [1]) (T' := [(1, .ra 1 0), (3, .int .i64 e_3_2.fOp), (14, .int .i64 t0.fOp), (15, .bool (t0.fOp == 2))]) (O' := [(1, .box [.int .i64 t0.fOp, .int .i64 t0.fN, .sl (List.map I t0.fType), .sl (List.map GTerm_S t0.fKids)])]) (by kernel_rfl) trivial (by kernel_rfl) (by kernel_rfl) ?_
    refine seqQ_norm ?_
    rcases itesome h with ⟨hb_2, h⟩ | ⟨hb_2, h⟩
    · refine Wp.condT (b := (t0.fOp == 2)) (by kernel_rfl) (by kernel_rfl) hb_2 ?_
      refine Wp.seqN (by kernel_rfl) ?_
      obtain ⟨v_3, hj_4, h⟩ := bsome h
      refine Wp.into (x := .normal) (mkS [(2, .bool v_3)] []) ?_ ?_
      · replace h := hj_4
        rcases itesome h with ⟨hb_6_0, h⟩ | ⟨hb_6_0, h⟩
        · obtain ⟨e_6_5, hi_6_5, h⟩ := bsome h
          refine Wp.reg tiok mix hc (by kernel_rfl) (ah := none) (rs := [some (.no), some (.no), some (.no), some (.no), some (.no), some (.el (.agg [.int .i64 e_6_5.fOp, .int .i64 e_6_5.fN, .sl (List.map I e_6_5.fType), .sl (List.map GTerm_S e_6_5.fKids)])), some (.no), some (.no), some (.no), some (.cond true), some (.no)]) (kt := [2]) (ko := []) (T' := [(2, .bool (e_6_5.fOp == 1))]) (O' := []) (by kernel_rfl) (And.intro hb_6_0 (And.intro hb_6_0 (And.intro hb_6_0 (And.intro (idx_sl (enc := GTerm_S) (x := .agg [.int .i64 e_6_5.fOp, .int .i64 e_6_5.fN, .sl (List.map I e_6_5.fType), .sl (List.map GTerm_S e_6_5.fKids)]) hi_6_5 (eq_GTerm_S e_6_5)) (And.intro hb_6_0 (And.intro hb_6_0 (And.intro hb_6_0 (And.intro hb_6_0 trivial)))))))) (by kernel_rfl) (by kernel_rfl) ?_
          obtain rfl := Option.some.inj h
          exact Into.mk
        · refine Wp.reg tiok mix hc (by kernel_rfl) (ah := none) (rs := [some (.no), some (.no), some (.no), none, none, none, none, none, none, some (.cond false), some (.no)]) (kt := [2]) (ko := []) (T' := [(2, .bool false)]) (O' := []) (by kernel_rfl) (And.intro (neT hb_6_0 : (e_3_2.fOp == 1) ≠ true) (And.intro (neT hb_6_0 : (e_3_2.fOp == 1) ≠ true) (And.intro (neT hb_6_0 : (e_3_2.fOp == 1) ≠ true) (And.intro (neT hb_6_0 : (e_3_2.fOp == 1) ≠ true) (And.intro (neT hb_6_0 : (e_3_2.fOp == 1) ≠ true) (And.intro (neT hb_6_0 : (e_3_2.fOp == 1) ≠ true) (And.intro hb_6_0 trivial))))))) (by kernel_rfl) (by kernel_rfl) ?_
          obtain rfl := Option.some.inj h
          exact Into.mk
      · clear hj_4
        refine seqQ_norm ?_
        refine Wp.retN (by kernel_rfl) ?_
        refine blockQ_ret ?_
        refine seqQ_ret ?_
        obtain rfl := Option.some.inj h
        exact RetQ.ret (fl := [true]) (by kernel_rfl)
    · refine Wp.condF (b := (t0.fOp == 2)) (by kernel_rfl) (by kernel_rfl) hb_2 ?_
      refine Wp.seqN (by kernel_rfl) ?_
      refine Wp.reg tiok mix hc (by kernel_rfl) (ah := none) (rs := [some (.no), some (.no)]) (kt := [3, 14, 27]) (ko := []) (T' := [(3, .int .i64 e_3_2.fOp), (14, .int .i64 t0.fOp), (27, .bool (t0.fOp == 3))]) (O' := []) (by kernel_rfl) trivial (by kernel_rfl) (by kernel_rfl) ?_
      refine seqQ_norm ?_
      rcases itesome h with ⟨hb_5, h⟩ | ⟨hb_5, h⟩
      · refine Wp.condT (b := (t0.fOp == 3)) (by kernel_rfl) (by kernel_rfl) hb_5 ?_
        refine Wp.seqN (by kernel_rfl) ?_
        refine Wp.reg tiok mix hc (by kernel_rfl) (ah := none) (rs := [some (.no), some (.no), some (.no)]) (kt := [2]) (ko := []) (T' := [(2, .bool (e_3_2.fOp == 1))]) (O' := []) (by kernel_rfl) trivial (by kernel_rfl) (by kernel_rfl) ?_
        refine seqQ_norm ?_
        refine Wp.retN (by kernel_rfl) ?_
        refine blockQ_ret ?_
        refine seqQ_ret ?_
        obtain rfl := Option.some.inj h
        exact RetQ.ret (fl := [true]) (by kernel_rfl)
      · refine Wp.condF (b := (t0.fOp == 3)) (by kernel_rfl) (by kernel_rfl) hb_5 ?_
        refine Wp.seqN (by kernel_rfl) ?_
        refine Wp.reg tiok mix hc (by kernel_rfl) (ah := none) (rs := [some (.no), some (.no)]) (kt := [3, 14, 31]) (ko := []) (T' := [(3, .int .i64 e_3_2.fOp), (14, .int .i64 t0.fOp), (31, .bool (t0.fOp == 10))]) (O' := []) (by kernel_rfl) trivial (by kernel_rfl) (by kernel_rfl) ?_
        refine seqQ_norm ?_
        rcases itesome h with ⟨hb_6, h⟩ | ⟨hb_6, h⟩
        · refine Wp.condT (b := (t0.fOp == 10)) (by kernel_rfl) (by kernel_rfl) hb_6 ?_
          refine Wp.seqN (by kernel_rfl) ?_
          refine Wp.reg tiok mix hc (by kernel_rfl) (ah := none) (rs := [some (.no), some (.no), some (.no)]) (kt := [2]) (ko := []) (T' := [(2, .bool (e_3_2.fOp == 9))]) (O' := []) (by kernel_rfl) trivial (by kernel_rfl) (by kernel_rfl) ?_
          refine seqQ_norm ?_
          refine Wp.retN (by kernel_rfl) ?_
          refine blockQ_ret ?_
          refine seqQ_ret ?_
          obtain rfl := Option.some.inj h
          exact RetQ.ret (fl := [true]) (by kernel_rfl)
        · refine Wp.condF (b := (t0.fOp == 10)) (by kernel_rfl) (by kernel_rfl) hb_6 ?_
          refine Wp.seqN (by kernel_rfl) ?_
          refine Wp.reg tiok mix hc (by kernel_rfl) (ah := none) (rs := [some (.no), some (.no)]) (kt := [3, 14, 35]) (ko := []) (T' := [(3, .int .i64 e_3_2.fOp), (14, .int .i64 t0.fOp), (35, .bool (t0.fOp == 5))]) (O' := []) (by kernel_rfl) trivial (by kernel_rfl) (by kernel_rfl) ?_
          refine seqQ_norm ?_
          rcases itesome h with ⟨hb_7, h⟩ | ⟨hb_7, h⟩
          · refine Wp.condT (b := (t0.fOp == 5)) (by kernel_rfl) (by kernel_rfl) hb_7 ?_
            refine Wp.seqN (by kernel_rfl) ?_
            refine Wp.reg tiok mix hc (by kernel_rfl) (ah := none) (rs := [some (.no), some (.no), some (.no)]) (kt := [2]) (ko := []) (T' := [(2, .bool (e_3_2.fOp == 4))]) (O' := []) (by kernel_rfl) trivial (by kernel_rfl) (by kernel_rfl) ?_
            refine seqQ_norm ?_
            refine Wp.retN (by kernel_rfl) ?_
            refine blockQ_ret ?_
            refine seqQ_ret ?_
            obtain rfl := Option.some.inj h
            exact RetQ.ret (fl := [true]) (by kernel_rfl)
          · refine Wp.condF (b := (t0.fOp == 5)) (by kernel_rfl) (by kernel_rfl) hb_7 ?_
            refine Wp.seqN (by kernel_rfl) ?_
            refine Wp.reg tiok mix hc (by kernel_rfl) (ah := none) (rs := [some (.no), some (.no)]) (kt := [3, 14, 39]) (ko := []) (T' := [(3, .int .i64 e_3_2.fOp), (14, .int .i64 t0.fOp), (39, .bool (t0.fOp == 8))]) (O' := []) (by kernel_rfl) trivial (by kernel_rfl) (by kernel_rfl) ?_
            refine seqQ_norm ?_
            rcases itesome h with ⟨hb_8, h⟩ | ⟨hb_8, h⟩
            · refine Wp.condT (b := (t0.fOp == 8)) (by kernel_rfl) (by kernel_rfl) hb_8 ?_
              refine Wp.seqN (by kernel_rfl) ?_
              obtain ⟨v_9, hj_10, h⟩ := bsome h
              refine Wp.into (x := .normal) (mkS [(2, .bool v_9)] []) ?_ ?_
              · replace h := hj_10
                rcases itesome h with ⟨hb_14_0, h⟩ | ⟨hb_14_0, h⟩
                · refine Wp.reg tiok mix hc (by kernel_rfl) (ah := none) (rs := [some (.no), some (.no), some (.no), none, none, some (.cond true), some (.no)]) (kt := [2]) (ko := []) (T' := [(2, .bool true)]) (O' := []) (by kernel_rfl) (And.intro (neF hb_14_0 : (e_3_2.fOp == 6) ≠ false) (And.intro (neF hb_14_0 : (e_3_2.fOp == 6) ≠ false) (And.intro hb_14_0 trivial))) (by kernel_rfl) (by kernel_rfl) ?_
                  obtain rfl := Option.some.inj h
                  exact Into.mk
                · refine Wp.reg tiok mix hc (by kernel_rfl) (ah := none) (rs := [some (.no), some (.no), some (.no), some (.no), some (.no), some (.cond false), some (.no)]) (kt := [2]) (ko := []) (T' := [(2, .bool (e_3_2.fOp == 7))]) (O' := []) (by kernel_rfl) (And.intro hb_14_0 (And.intro hb_14_0 (And.intro hb_14_0 trivial))) (by kernel_rfl) (by kernel_rfl) ?_
                  obtain rfl := Option.some.inj h
                  exact Into.mk
              · clear hj_10
                refine seqQ_norm ?_
                refine Wp.retN (by kernel_rfl) ?_
                refine blockQ_ret ?_
                refine seqQ_ret ?_
                obtain rfl := Option.some.inj h
                exact RetQ.ret (fl := [true]) (by kernel_rfl)
            · refine Wp.condF (b := (t0.fOp == 8)) (by kernel_rfl) (by kernel_rfl) hb_8 ?_
              refine Wp.seqN (by kernel_rfl) ?_
              refine Wp.reg tiok mix hc (by kernel_rfl) (ah := none) (rs := [some (.no), some (.no)]) (kt := [3, 47]) (ko := []) (T' := [(3, .int .i64 e_3_2.fOp), (47, .bool (t0.fOp == 12))]) (O' := []) (by kernel_rfl) trivial (by kernel_rfl) (by kernel_rfl) ?_
              refine seqQ_norm ?_
              rcases itesome h with ⟨hb_11, h⟩ | ⟨hb_11, h⟩
              · refine Wp.condT (b := (t0.fOp == 12)) (by kernel_rfl) (by kernel_rfl) hb_11 ?_
                refine Wp.seqN (by kernel_rfl) ?_
                refine Wp.reg tiok mix hc (by kernel_rfl) (ah := none) (rs := [some (.no), some (.no), some (.no)]) (kt := [2]) (ko := []) (T' := [(2, .bool (e_3_2.fOp == 11))]) (O' := []) (by kernel_rfl) trivial (by kernel_rfl) (by kernel_rfl) ?_
                refine seqQ_norm ?_
                refine Wp.retN (by kernel_rfl) ?_
                refine blockQ_ret ?_
                refine seqQ_ret ?_
                obtain rfl := Option.some.inj h
                exact RetQ.ret (fl := [true]) (by kernel_rfl)
              · refine Wp.condF (b := (t0.fOp == 12)) (by kernel_rfl) (by kernel_rfl) hb_11 ?_
                refine Wp.skipN (by kernel_rfl) ?_
                refine blockQ_norm ?_
                refine seqQ_norm ?_
                refine Wp.seqN (by kernel_rfl) ?_
                refine Wp.reg tiok mix hc (by kernel_rfl) (ah := none) (rs := [some (.no)]) (kt := [2]) (ko := []) (T' := [(2, .bool false)]) (O' := []) (by kernel_rfl) trivial (by kernel_rfl) (by kernel_rfl) ?_
                refine seqQ_norm ?_
                refine Wp.retN (by kernel_rfl) ?_
                obtain rfl := Option.some.inj h
                exact RetQ.ret (fl := [true]) (by kernel_rfl)
def spec_l1Copy (l0 : (List Int)) : Option ((List Int)) :=
    (fits (([] : List Int).length + l0.length) 8) >>= fun _ =>
    some l0
def M_spec_l1Copy (l0 : (List Int)) (r : (List Int)) : Prop :=
  FnSound Try.prog 103 [.sl (List.map I l0)] (.osl (List.map I r)) []
theorem spec_l1Copy_s : ∀ p r, spec_l1Copy p = some r → M_spec_l1Copy p r := by
  rintro l0 r h
  unfold spec_l1Copy at h
  show FnSound Try.prog 103 [.sl (List.map I l0)] (.osl (List.map I r)) []
  refine FnSound.body0 tiok (fn := Try.f103) (code := B103) (by kernel_rfl) (by kernel_rfl) (by kernel_rfl) (by kernel_rfl) (nt := 6) (by kernel_rfl) (by kernel_rfl) (T := [(0, .sl (List.map I l0))]) (O := []) (by kernel_rfl) (by kernel_rfl) (fun c hc => ?_)
  refine Wp.seqN (by kernel_rfl) ?_
  refine Wp.reg tiok mix hc (by kernel_rfl) (ah := none) (rs := [some (.no)]) (kt := [0]) (ko := []) (T' := [(0, .sl (List.map I l0))]) (O' := []) (by kernel_rfl) trivial (by kernel_rfl) (by kernel_rfl) ?_
  refine seqQ_norm ?_
  refine Wp.seqN (by kernel_rfl) ?_
  obtain ⟨_, hk_1_2, h⟩ := bsome h
  refine Wp.reg tiok mix hc (by kernel_rfl) (ah := none) (rs := [some (.mk 1 true), some (.no), some (.eqv (.mk 2 true) ⟨[(5, .rs 2)], [(2, some (.arr (List.map I l0))), (1, none)], [2]⟩), some (.no)]) (kt := [2]) (ko := [2]) (T' := [(2, .rs 2)]) (O' := [(2, .arr (List.map I l0))]) (by kernel_rfl) (And.intro (congrArg (fun z => (⟨[(5, .rs 2)], [(2, some (.arr z)), (1, none)], [2]⟩ : Wr)) (List.nil_append _ : [] ++ (List.map I l0) = List.map I l0)) (And.intro (app_ob (enc1 := I) (enc2 := I) (e1 := []) (e2 := l0) (sz := 1) ek_I ek_I hk_1_2) trivial)) (by kernel_rfl) (by kernel_rfl) ?_
  refine seqQ_norm ?_
  refine Wp.retN (by kernel_rfl) ?_
  obtain rfl := Option.some.inj h
  exact RetQ.ret (fl := [true]) (by kernel_rfl)
def spec_l4Paths_F1 (c : Ctx) : (List (List Int)) → Exit → AState → Prop
  | out_8 => Into c (.exit 0) (mkS [(5, .rs 5)] [(5, .arr (List.map LI_o out_8))])
mutual
def spec_l4Paths (p : GTerm × (List Int)) : Option ((List (List Int))) :=
  match p with
  | (t0, path1) =>
    (spec_l4Redex t0) >>= fun r_2_1 =>
    (
      if r_2_1 = true then
        (spec_l1Copy path1) >>= fun r_3_2 =>
        (fits (([] : List (List Int)).length + [r_3_2].length) 24) >>= fun _ =>
        some ([r_3_2])
      else
        some ([])
    ) >>= fun out_2 =>
    (spec_l4Paths_l0 (t0, path1, out_2, 0)) >>= fun out_8 =>
    some out_8
  partial_fixpoint
def spec_l4Paths_l0 (p : GTerm × (List Int) × (List (List Int)) × Int) : Option ((List (List Int))) :=
  match p with
  | (t0, path1, out_5, k_6) =>
    if (decide (k_6 < (t0.fKids.length : Int))) = true then
      (idx t0.fKids k_6) >>= fun e_7_4 =>
      (spec_l1Copy path1) >>= fun r_7_7 =>
      (fits (r_7_7.length + [k_6].length) 8) >>= fun _ =>
      (spec_l4Paths (e_7_4, (r_7_7 ++ [k_6]))) >>= fun r_7_11 =>
      (fits (out_5.length + r_7_11.length) 24) >>= fun _ =>
      spec_l4Paths_l0 (t0, path1, (out_5 ++ r_7_11), (wr (k_6 + 1)))
    else
      some (out_5)
  partial_fixpoint
end
def M_spec_l4Paths (p : GTerm × (List Int)) (r : (List (List Int))) : Prop :=
  match p with
  | (t0, path1) => FnSound Try.prog 64 [.agg [.int .i64 t0.fOp, .int .i64 t0.fN, .sl (List.map I t0.fType), .sl (List.map GTerm_S t0.fKids)], .sl (List.map I path1)] (.osl (List.map LI_o r)) []
def M_spec_l4Paths_l0 (p : GTerm × (List Int) × (List (List Int)) × Int) (fl : (List (List Int))) : Prop :=
  match p with
  | (t0, path1, out_5, k_6) => ∀ c : Ctx, c.nt = 36 → WpL Try.prog c (cl (cl (cr (cl (cr (cr (cr B64))))))) (spec_l4Paths_F1 c fl) (mkS [(1, .sl (List.map I path1)), (2, .ra 1 0), (5, .rs 5), (6, .int .i64 k_6)] [(1, .box [.int .i64 t0.fOp, .int .i64 t0.fN, .sl (List.map I t0.fType), .sl (List.map GTerm_S t0.fKids)]), (5, .arr (List.map LI_o out_5))])
theorem spec_l4Paths_all : (∀ p r, spec_l4Paths p = some r → M_spec_l4Paths p r) ∧ (∀ p r, spec_l4Paths_l0 p = some r → M_spec_l4Paths_l0 p r) := by
  refine spec_l4Paths.mutual_partial_correctness M_spec_l4Paths M_spec_l4Paths_l0 ?_ ?_
  · rintro spec_l4Paths_l0_f spec_l4Paths_l0_ih ⟨t0, path1⟩ r h
    show FnSound Try.prog 64 [.agg [.int .i64 t0.fOp, .int .i64 t0.fN, .sl (List.map I t0.fType), .sl (List.map GTerm_S t0.fKids)], .sl (List.map I path1)] (.osl (List.map LI_o r)) []
    refine FnSound.body0 tiok (fn := Try.f64) (code := B64) (by kernel_rfl) (by kernel_rfl) (by kernel_rfl) (by kernel_rfl) (nt := 36) (by kernel_rfl) (by kernel_rfl) (T := [(0, .agg [.int .i64 t0.fOp, .int .i64 t0.fN, .sl (List.map I t0.fType), .sl (List.map GTerm_S t0.fKids)]), (1, .sl (List.map I path1))]) (O := []) (by kernel_rfl) (by kernel_rfl) (fun c hc => ?_)
    refine Wp.seqN (by kernel_rfl) ?_
    refine Wp.reg tiok mix hc (by kernel_rfl) (ah := none) (rs := [some (.new 1), some (.no)]) (kt := [1, 2]) (ko := [1]) (T' := [(1, .sl (List.map I path1)), (2, .ra 1 0)]) (O' := [(1, .box [.int .i64 t0.fOp, .int .i64 t0.fN, .sl (List.map I t0.fType), .sl (List.map GTerm_S t0.fKids)])]) (by kernel_rfl) trivial (by kernel_rfl) (by kernel_rfl) ?_
    refine seqQ_norm ?_
    refine Wp.seqN (by kernel_rfl) ?_
    refine Wp.reg tiok mix hc (by kernel_rfl) (ah := none) (rs := [some (.mk 2 true), some (.no)]) (kt := [1, 2, 5]) (ko := [1, 2]) (T' := [(1, .sl (List.map I path1)), (2, .ra 1 0), (5, .rs 2)]) (O' := [(1, .box [.int .i64 t0.fOp, .int .i64 t0.fN, .sl (List.map I t0.fType), .sl (List.map GTerm_S t0.fKids)]), (2, .arr (List.map LI_o []))]) (by kernel_rfl) trivial (by kernel_rfl) (by kernel_rfl) ?_
    refine seqQ_norm ?_
    refine Wp.seqN (by kernel_rfl) ?_
    refine Wp.seqN (by kernel_rfl) ?_
    obtain ⟨r_2_1, hr_2_1, h⟩ := bsome h
    refine Wp.reg tiok mix hc (by kernel_rfl) (ah := none) (rs := [some (.no), some (.call (.bool r_2_1) [] 1)]) (kt := [1, 2, 5, 9]) (ko := [1, 2]) (T' := [(1, .sl (List.map I path1)), (2, .ra 1 0), (5, .rs 2), (9, .bool r_2_1)]) (O' := [(1, .box [.int .i64 t0.fOp, .int .i64 t0.fN, .sl (List.map I t0.fType), .sl (List.map GTerm_S t0.fKids)]), (2, .arr (List.map LI_o []))]) (by kernel_rfl) (And.intro (spec_l4Redex_s _ _ hr_2_1) (And.intro bod_102 (And.intro (Or.inl rfl : ([] : List Nat) = [] ∨ noSh (.bool r_2_1) = true) trivial))) (by kernel_rfl) (by kernel_rfl) ?_
    refine seqQ_norm ?_
    obtain ⟨out_2, hj_3, h⟩ := bsome h
    refine Wp.into (x := .normal) (mkS [(1, .sl (List.map I path1)), (2, .ra 1 0), (5, .rs 5)] [(1, .box [.int .i64 t0.fOp, .int .i64 t0.fN, .sl (List.map I t0.fType), .sl (List.map GTerm_S t0.fKids)]), (5, .arr (List.map LI_o out_2))]) ?_ ?_
    · replace h := hj_3
      rcases itesome h with ⟨hb_1, h⟩ | ⟨hb_1, h⟩
      · refine Wp.condT (b := r_2_1) (by kernel_rfl) (by kernel_rfl) hb_1 ?_
        obtain ⟨r_3_2, hr_3_2, h⟩ := bsome h
        obtain ⟨_, hk_3_4, h⟩ := bsome h
        refine Wp.reg tiok mix hc (by kernel_rfl) (ah := none) (rs := [some (.no), some (.no), some (.call (.osl (List.map I r_3_2)) [] 3), some (.mk 4 true), some (.eqv (.mk 5 true) ⟨[(14, .rs 5)], [(5, some (.arr (List.map LI_o [r_3_2]))), (2, none), (4, none)], [5]⟩), some (.no)]) (kt := [1, 2, 5]) (ko := [1, 5]) (T' := [(1, .sl (List.map I path1)), (2, .ra 1 0), (5, .rs 5)]) (O' := [(1, .box [.int .i64 t0.fOp, .int .i64 t0.fN, .sl (List.map I t0.fType), .sl (List.map GTerm_S t0.fKids)]), (5, .arr (List.map LI_o [r_3_2]))]) (by kernel_rfl) (And.intro (spec_l1Copy_s _ _ hr_3_2) (And.intro bod_103 (And.intro (Or.inl rfl : ([] : List Nat) = [] ∨ noSh (.osl (List.map I r_3_2)) = true) (And.intro (congrArg (fun z => (⟨[(14, .rs 5)], [(5, some (.arr z)), (2, none), (4, none)], [5]⟩ : Wr)) (List.nil_append _ : [] ++ (List.map LI_o [r_3_2]) = List.map LI_o [r_3_2])) (And.intro (app_ob (enc1 := LI_o) (enc2 := LI_o) (e1 := []) (e2 := [r_3_2]) (sz := 1) ek_LI_o ek_LI_o hk_3_4) trivial))))) (by kernel_rfl) (by kernel_rfl) ?_
        obtain rfl := Option.some.inj h
        exact Into.mk
      · refine Wp.condF (b := r_2_1) (by kernel_rfl) (by kernel_rfl) hb_1 ?_
        refine Wp.skipN (by kernel_rfl) ?_
        obtain rfl := Option.some.inj h
        exact Into.view (fun a w hv => SRx.renL [(5, 2)] hv (by kernel_rfl) (by kernel_rfl) (by kernel_rfl))
    · clear hj_3
      refine seqQ_norm ?_
      refine Wp.seqN (by kernel_rfl) ?_
      refine Wp.seqN (by kernel_rfl) ?_
      refine Wp.reg tiok mix hc (by kernel_rfl) (ah := none) (rs := [some (.no)]) (kt := [1, 2, 5, 6]) (ko := [1, 5]) (T' := [(1, .sl (List.map I path1)), (2, .ra 1 0), (5, .rs 5), (6, .int .i64 0)]) (O' := [(1, .box [.int .i64 t0.fOp, .int .i64 t0.fN, .sl (List.map I t0.fType), .sl (List.map GTerm_S t0.fKids)]), (5, .arr (List.map LI_o out_2))]) (by kernel_rfl) trivial (by kernel_rfl) (by kernel_rfl) ?_
      refine seqQ_norm ?_
      refine Wp.blockN (i := 0) (by kernel_rfl) ?_
      obtain ⟨out_8, hl_9, h⟩ := bsome h
      have hL := spec_l4Paths_l0_ih _ _ hl_9 c hc
      refine Wp.loopN (by kernel_rfl) ?_
      · refine WpL.into (e := (.exit 0)) (mkS [(5, .rs 5)] [(5, .arr (List.map LI_o out_8))]) hL ?_
        refine blockQ_hit ?_
        refine seqQ_norm ?_
        refine Wp.seqN (by kernel_rfl) ?_
        refine Wp.reg tiok mix hc (by kernel_rfl) (ah := none) (rs := [some (.no), some (.no)]) (kt := [4]) (ko := [5]) (T' := [(4, .rs 5)]) (O' := [(5, .arr (List.map LI_o out_8))]) (by kernel_rfl) trivial (by kernel_rfl) (by kernel_rfl) ?_
        refine seqQ_norm ?_
        refine Wp.retN (by kernel_rfl) ?_
        obtain rfl := Option.some.inj h
        exact RetQ.ret (fl := [true]) (by kernel_rfl)
  · rintro spec_l4Paths_f spec_l4Paths_l0_f spec_l4Paths_ih spec_l4Paths_l0_ih ⟨t0, path1, out_5, k_6⟩ r h
    intro c hc
    show WpL Try.prog c (cl (cl (cr (cl (cr (cr (cr B64))))))) (spec_l4Paths_F1 c r) (mkS [(1, .sl (List.map I path1)), (2, .ra 1 0), (5, .rs 5), (6, .int .i64 k_6)] [(1, .box [.int .i64 t0.fOp, .int .i64 t0.fN, .sl (List.map I t0.fType), .sl (List.map GTerm_S t0.fKids)]), (5, .arr (List.map LI_o out_5))])
    refine WpL.step ?_
    refine Wp.seqN (by kernel_rfl) ?_
    refine Wp.seqN (by kernel_rfl) ?_
    refine Wp.reg tiok mix hc (by kernel_rfl) (ah := none) (rs := [some (.no), some (.no), some (.no), some (.eqv (.no) ⟨[(18, .int .i64 (t0.fKids.length : Int))], [], []⟩), some (.no)]) (kt := [1, 2, 5, 6, 19]) (ko := [1, 5]) (T' := [(1, .sl (List.map I path1)), (2, .ra 1 0), (5, .rs 5), (6, .int .i64 k_6), (19, .bool (decide (k_6 < (t0.fKids.length : Int))))]) (O' := [(1, .box [.int .i64 t0.fOp, .int .i64 t0.fN, .sl (List.map I t0.fType), .sl (List.map GTerm_S t0.fKids)]), (5, .arr (List.map LI_o out_5))]) (by kernel_rfl) (And.intro (lenT (d := 18) GTerm_S t0.fKids) trivial) (by kernel_rfl) (by kernel_rfl) ?_
    refine seqQ_norm ?_
    rcases itesome h with ⟨hb_7, h⟩ | ⟨hb_7, h⟩
    · refine Wp.condT (b := (decide (k_6 < (t0.fKids.length : Int)))) (by kernel_rfl) (by kernel_rfl) hb_7 ?_
      refine Wp.skipN (by kernel_rfl) ?_
      refine seqQ_norm ?_
      refine Wp.seqN (by kernel_rfl) ?_
      refine Wp.blockN (i := 1) (by kernel_rfl) ?_
      obtain ⟨e_7_4, hi_7_4, h⟩ := bsome h
      obtain ⟨r_7_7, hr_7_7, h⟩ := bsome h
      obtain ⟨_, hk_7_10, h⟩ := bsome h
      obtain ⟨r_7_11, hr_7_11, h⟩ := bsome h
      obtain ⟨_, hk_7_12, h⟩ := bsome h
      refine Wp.reg tiok mix hc (by kernel_rfl) (ah := (some [[], [], [1], [], [1, 2, 3], [1, 2, 3, 4], [], [6], [], [8], [6, 7, 8, 9], [1, 2, 3, 4, 5, 6, 7, 8, 9, 10], [0, 1, 2, 3, 4, 5, 6, 7, 8, 9, 10, 11], [0, 1, 2, 3, 4, 5, 6, 7, 8, 9, 10, 11, 12]])) (rs := [some (.no), some (.no), some (.no), some (.no), some (.el (.agg [.int .i64 e_7_4.fOp, .int .i64 e_7_4.fN, .sl (List.map I e_7_4.fType), .sl (List.map GTerm_S e_7_4.fKids)])), some (.no), some (.no), some (.call (.osl (List.map I r_7_7)) [] 11), some (.no), some (.mk 12 true), some (.eqv (.mk 13 true) ⟨[(32, .rs 13)], [(13, some (.arr (List.map I (r_7_7 ++ [k_6])))), (11, none), (12, none)], [13]⟩), some (.call (.osl (List.map LI_o r_7_11)) [] 14), some (.eqv (.mk 15 true) ⟨[(34, .rs 15)], [(15, some (.arr (List.map LI_o (out_5 ++ r_7_11)))), (5, none), (14, none)], [15]⟩), some (.no)]) (kt := [1, 2, 5, 6]) (ko := [1, 15]) (T' := [(1, .sl (List.map I path1)), (2, .ra 1 0), (5, .rs 15), (6, .int .i64 k_6)]) (O' := [(1, .box [.int .i64 t0.fOp, .int .i64 t0.fN, .sl (List.map I t0.fType), .sl (List.map GTerm_S t0.fKids)]), (15, .arr (List.map LI_o (out_5 ++ r_7_11)))]) (by kernel_rfl) (And.intro (idx_sl (enc := GTerm_S) (x := .agg [.int .i64 e_7_4.fOp, .int .i64 e_7_4.fN, .sl (List.map I e_7_4.fType), .sl (List.map GTerm_S e_7_4.fKids)]) hi_7_4 (eq_GTerm_S e_7_4)) (And.intro (spec_l1Copy_s _ _ hr_7_7) (And.intro bod_103 (And.intro (Or.inl rfl : ([] : List Nat) = [] ∨ noSh (.osl (List.map I r_7_7)) = true) (And.intro (congrArg (fun z => (⟨[(32, .rs 13)], [(13, some (.arr z)), (11, none), (12, none)], [13]⟩ : Wr)) ((List.map_append).symm : (List.map I r_7_7) ++ (List.map I [k_6]) = List.map I (r_7_7 ++ [k_6]))) (And.intro (app_ob (enc1 := I) (enc2 := I) (e1 := r_7_7) (e2 := [k_6]) (sz := 1) ek_I ek_I hk_7_10) (And.intro (FnSound.args (A1 := [.agg [.int .i64 e_7_4.fOp, .int .i64 e_7_4.fN, .sl (List.map I e_7_4.fType), .sl (List.map GTerm_S e_7_4.fKids)], .sl (shares (List.map I (r_7_7 ++ [k_6])))]) (A2 := [.agg [.int .i64 e_7_4.fOp, .int .i64 e_7_4.fN, .sl (List.map I e_7_4.fType), .sl (List.map GTerm_S e_7_4.fKids)], .sl (List.map I (r_7_7 ++ [k_6]))]) (by simp only [List.map_nil, sh_I]) (spec_l4Paths_ih _ _ hr_7_11)) (And.intro bod_64 (And.intro (Or.inr (nsh_row nsh_LI_o r_7_11) : ([13] : List Nat) = [] ∨ noSh (.osl (List.map LI_o r_7_11)) = true) (And.intro (congrArg (fun z => (⟨[(34, .rs 15)], [(15, some (.arr z)), (5, none), (14, none)], [15]⟩ : Wr)) ((List.map_append).symm : (List.map LI_o out_5) ++ (List.map LI_o r_7_11) = List.map LI_o (out_5 ++ r_7_11))) (And.intro (app_ob (enc1 := LI_o) (enc2 := LI_o) (e1 := out_5) (e2 := r_7_11) (sz := 1) ek_LI_o ek_LI_o hk_7_12) trivial))))))))))) (by kernel_rfl) (by kernel_rfl) ?_
      refine blockQ_norm ?_
      refine seqQ_norm ?_
      refine Wp.reg tiok mix hc (by kernel_rfl) (ah := none) (rs := [some (.no), some (.no), some (.no)]) (kt := [1, 2, 5, 6]) (ko := [1, 15]) (T' := [(1, .sl (List.map I path1)), (2, .ra 1 0), (5, .rs 15), (6, .int .i64 (wr (k_6 + 1)))]) (O' := [(1, .box [.int .i64 t0.fOp, .int .i64 t0.fN, .sl (List.map I t0.fType), .sl (List.map GTerm_S t0.fKids)]), (15, .arr (List.map LI_o (out_5 ++ r_7_11)))]) (by kernel_rfl) trivial (by kernel_rfl) (by kernel_rfl) ?_
      refine loopQ_norm ?_
      exact WpL.view (fun a w hv => SRx.renL [(5, 15)] hv (by kernel_rfl) (by kernel_rfl) (by kernel_rfl)) (spec_l4Paths_l0_ih _ _ h c hc)
    · refine Wp.condF (b := (decide (k_6 < (t0.fKids.length : Int)))) (by kernel_rfl) (by kernel_rfl) hb_7 ?_
      refine Wp.exitN (i := 0) (by kernel_rfl) ?_
      refine seqQ_exit ?_
      refine loopQ_exit ?_
      obtain rfl := Option.some.inj h
      exact Into.view (fun a w hv => SRx.renL [] hv (by kernel_rfl) (by kernel_rfl) (by kernel_rfl))
theorem spec_l4Paths_s : ∀ p r, spec_l4Paths p = some r → M_spec_l4Paths p r := spec_l4Paths_all.1
theorem spec_l4Paths_l0_s : ∀ p r, spec_l4Paths_l0 p = some r → M_spec_l4Paths_l0 p r := spec_l4Paths_all.2
def spec_RedexesOf (t0 : GTerm) : Option ((List (List Int))) :=
    (spec_IsWritten t0) >>= fun r_1_1 =>
    if r_1_1 = true then
      (spec_l4Paths (t0, [])) >>= fun r_3_1 =>
      some r_3_1
    else
      some []
def M_spec_RedexesOf (t0 : GTerm) (r : (List (List Int))) : Prop :=
  FnSound Try.prog 37 [.agg [.int .i64 t0.fOp, .int .i64 t0.fN, .sl (List.map I t0.fType), .sl (List.map GTerm_S t0.fKids)]] (.osl (List.map LI_o r)) []
theorem spec_RedexesOf_s : ∀ p r, spec_RedexesOf p = some r → M_spec_RedexesOf p r := by
  rintro t0 r h
  unfold spec_RedexesOf at h
  show FnSound Try.prog 37 [.agg [.int .i64 t0.fOp, .int .i64 t0.fN, .sl (List.map I t0.fType), .sl (List.map GTerm_S t0.fKids)]] (.osl (List.map LI_o r)) []
  refine FnSound.body0 tiok (fn := Try.f37) (code := B37) (by kernel_rfl) (by kernel_rfl) (by kernel_rfl) (by kernel_rfl) (nt := 8) (by kernel_rfl) (by kernel_rfl) (T := [(0, .agg [.int .i64 t0.fOp, .int .i64 t0.fN, .sl (List.map I t0.fType), .sl (List.map GTerm_S t0.fKids)])]) (O := []) (by kernel_rfl) (by kernel_rfl) (fun c hc => ?_)
  refine Wp.seqN (by kernel_rfl) ?_
  refine Wp.reg tiok mix hc (by kernel_rfl) (ah := none) (rs := [some (.new 1), some (.no)]) (kt := [1]) (ko := [1]) (T' := [(1, .ra 1 0)]) (O' := [(1, .box [.int .i64 t0.fOp, .int .i64 t0.fN, .sl (List.map I t0.fType), .sl (List.map GTerm_S t0.fKids)])]) (by kernel_rfl) trivial (by kernel_rfl) (by kernel_rfl) ?_
  refine seqQ_norm ?_
  refine Wp.seqN (by kernel_rfl) ?_
  refine Wp.seqN (by kernel_rfl) ?_
  obtain ⟨r_1_1, hr_1_1, h⟩ := bsome h
  refine Wp.reg tiok mix hc (by kernel_rfl) (ah := none) (rs := [some (.no), some (.call (.bool r_1_1) [] 1), some (.no)]) (kt := [1, 5]) (ko := [1]) (T' := [(1, .ra 1 0), (5, .bool (!r_1_1))]) (O' := [(1, .box [.int .i64 t0.fOp, .int .i64 t0.fN, .sl (List.map I t0.fType), .sl (List.map GTerm_S t0.fKids)])]) (by kernel_rfl) (And.intro (spec_IsWritten_s _ _ hr_1_1) (And.intro bod_58 (And.intro (Or.inl rfl : ([] : List Nat) = [] ∨ noSh (.bool r_1_1) = true) trivial))) (by kernel_rfl) (by kernel_rfl) ?_
  refine seqQ_norm ?_
  rcases itesome h with ⟨hb_1, h⟩ | ⟨hb_1, h⟩
  · refine Wp.condF (b := (!r_1_1)) (by kernel_rfl) (by kernel_rfl) (nF hb_1) ?_
    refine Wp.skipN (by kernel_rfl) ?_
    refine seqQ_norm ?_
    refine Wp.seqN (by kernel_rfl) ?_
    obtain ⟨r_3_1, hr_3_1, h⟩ := bsome h
    refine Wp.reg tiok mix hc (by kernel_rfl) (ah := none) (rs := [some (.no), some (.call (.osl (List.map LI_o r_3_1)) [] 2), some (.no)]) (kt := [2]) (ko := [2]) (T' := [(2, .rs 2)]) (O' := [(2, .arr (List.map LI_o r_3_1))]) (by kernel_rfl) (And.intro (FnSound.args (A1 := [.agg [.int .i64 t0.fOp, .int .i64 t0.fN, .sl (List.map I t0.fType), .sl (List.map GTerm_S t0.fKids)], .sl []]) (A2 := [.agg [.int .i64 t0.fOp, .int .i64 t0.fN, .sl (List.map I t0.fType), .sl (List.map GTerm_S t0.fKids)], .sl (List.map I [])]) (by simp only [List.map_nil]) (spec_l4Paths_s _ _ hr_3_1)) (And.intro bod_64 (And.intro (Or.inl rfl : ([] : List Nat) = [] ∨ noSh (.osl (List.map LI_o r_3_1)) = true) trivial))) (by kernel_rfl) (by kernel_rfl) ?_
    refine seqQ_norm ?_
    refine Wp.retN (by kernel_rfl) ?_
    obtain rfl := Option.some.inj h
    exact RetQ.ret (fl := [true]) (by kernel_rfl)
  · refine Wp.condT (b := (!r_1_1)) (by kernel_rfl) (by kernel_rfl) (nT hb_1) ?_
    refine Wp.seqN (by kernel_rfl) ?_
    refine Wp.reg tiok mix hc (by kernel_rfl) (ah := none) (rs := [some (.no)]) (kt := [2]) (ko := []) (T' := [(2, .nils)]) (O' := []) (by kernel_rfl) trivial (by kernel_rfl) (by kernel_rfl) ?_
    refine seqQ_norm ?_
    refine Wp.retN (by kernel_rfl) ?_
    refine seqQ_ret ?_
    obtain rfl := Option.some.inj h
    exact RetQ.ret (fl := [true]) (by kernel_rfl)
def impl_within (p : Int × Int × Int) : Option (Bool) :=
  match p with
  | (n0, low1, high2) =>
    (
      if (decide (n0 ≥ low1)) = true then
        some ((decide (n0 ≤ high2)))
      else
        some (false)
    ) >>= fun v_1 =>
    some v_1
def M_impl_within (p : Int × Int × Int) (r : Bool) : Prop :=
  match p with
  | (n0, low1, high2) => FnSound Try.prog 91 [.int .i64 n0, .int .i64 low1, .int .i64 high2] (.bool r) []
theorem impl_within_s : ∀ p r, impl_within p = some r → M_impl_within p r := by
  rintro ⟨n0, low1, high2⟩ r h
  unfold impl_within at h
  show FnSound Try.prog 91 [.int .i64 n0, .int .i64 low1, .int .i64 high2] (.bool r) []
  refine FnSound.body0 tiok (fn := Try.f91) (code := B91) (by kernel_rfl) (by kernel_rfl) (by kernel_rfl) (by kernel_rfl) (nt := 15) (by kernel_rfl) (by kernel_rfl) (T := [(0, .int .i64 n0), (1, .int .i64 low1), (2, .int .i64 high2)]) (O := []) (by kernel_rfl) (by kernel_rfl) (fun c hc => ?_)
  refine Wp.seqN (by kernel_rfl) ?_
  refine Wp.reg tiok mix hc (by kernel_rfl) (ah := none) (rs := [some (.no)]) (kt := [0, 1, 2]) (ko := []) (T' := [(0, .int .i64 n0), (1, .int .i64 low1), (2, .int .i64 high2)]) (O' := []) (by kernel_rfl) trivial (by kernel_rfl) (by kernel_rfl) ?_
  refine seqQ_norm ?_
  refine Wp.seqN (by kernel_rfl) ?_
  obtain ⟨v_1, hj_2, h⟩ := bsome h
  refine Wp.into (x := .normal) (mkS [(6, .bool v_1)] []) ?_ ?_
  · replace h := hj_2
    rcases itesome h with ⟨hb_1_0, h⟩ | ⟨hb_1_0, h⟩
    · refine Wp.reg tiok mix hc (by kernel_rfl) (ah := none) (rs := [some (.no), some (.no), some (.no), some (.no), some (.no), some (.no), some (.no), some (.cond true), some (.no)]) (kt := [6]) (ko := []) (T' := [(6, .bool (decide (n0 ≤ high2)))]) (O' := []) (by kernel_rfl) (And.intro hb_1_0 (And.intro hb_1_0 (And.intro hb_1_0 (And.intro hb_1_0 trivial)))) (by kernel_rfl) (by kernel_rfl) ?_
      obtain rfl := Option.some.inj h
      exact Into.mk
    · refine Wp.reg tiok mix hc (by kernel_rfl) (ah := none) (rs := [some (.no), some (.no), some (.no), some (.no), none, none, none, some (.cond false), some (.no)]) (kt := [6]) (ko := []) (T' := [(6, .bool false)]) (O' := []) (by kernel_rfl) (And.intro (neT hb_1_0 : (decide (n0 ≥ low1)) ≠ true) (And.intro (neT hb_1_0 : (decide (n0 ≥ low1)) ≠ true) (And.intro (neT hb_1_0 : (decide (n0 ≥ low1)) ≠ true) (And.intro hb_1_0 trivial)))) (by kernel_rfl) (by kernel_rfl) ?_
      obtain rfl := Option.some.inj h
      exact Into.mk
  · clear hj_2
    refine seqQ_norm ?_
    refine Wp.retN (by kernel_rfl) ?_
    obtain rfl := Option.some.inj h
    exact RetQ.ret (fl := [true]) (by kernel_rfl)
def impl_formOf (op0 : Int) : Option (GForm × Bool) :=
    (impl_within (op0, 0, 12)) >>= fun r_1_1 =>
    if r_1_1 = true then
      (idx [(GForm.mk (ByteArray.mk #[120]) 0 false false), (GForm.mk ByteArray.empty 0 false false), (GForm.mk (ByteArray.mk #[97, 100, 100]) 2 false false), (GForm.mk (ByteArray.mk #[105, 102]) 3 false false), (GForm.mk (ByteArray.mk #[112, 97, 105, 114]) 2 false false), (GForm.mk (ByteArray.mk #[115, 112, 108, 105, 116]) 2 true false), (GForm.mk (ByteArray.mk #[108, 101, 102, 116]) 1 false true), (GForm.mk (ByteArray.mk #[114, 105, 103, 104, 116]) 1 false true), (GForm.mk (ByteArray.mk #[99, 97, 115, 101]) 3 true false), (GForm.mk (ByteArray.mk #[102, 117, 110]) 1 true true), (GForm.mk (ByteArray.mk #[97, 112, 112]) 2 false false), (GForm.mk (ByteArray.mk #[98, 111, 120]) 1 true false), (GForm.mk (ByteArray.mk #[111, 112, 101, 110]) 2 true false)] op0) >>= fun e_3_15 =>
      some (e_3_15, true)
    else
      some ((GForm.mk ByteArray.empty 0 false false), false)
def M_impl_formOf (op0 : Int) (r : GForm × Bool) : Prop :=
  FnSound Try.prog 100 [.int .i64 op0] (.tup [.agg [.str r.1.fword, .int .i64 r.1.fkids, .bool r.1.fgrade, .bool r.1.ftyped], .bool r.2]) []
theorem impl_formOf_s : ∀ p r, impl_formOf p = some r → M_impl_formOf p r := by
  rintro op0 r h
  unfold impl_formOf at h
  show FnSound Try.prog 100 [.int .i64 op0] (.tup [.agg [.str r.1.fword, .int .i64 r.1.fkids, .bool r.1.fgrade, .bool r.1.ftyped], .bool r.2]) []
  refine FnSound.body0 tiok (fn := Try.f100) (code := B100) (by kernel_rfl) (by kernel_rfl) (by kernel_rfl) (by kernel_rfl) (nt := 25) (by kernel_rfl) (by kernel_rfl) (T := [(0, .int .i64 op0)]) (O := []) (by kernel_rfl) (by kernel_rfl) (fun c hc => ?_)
  refine Wp.seqN (by kernel_rfl) ?_
  refine Wp.reg tiok mix hc (by kernel_rfl) (ah := none) (rs := [some (.new 1), some (.no)]) (kt := [0, 2]) (ko := [1]) (T' := [(0, .int .i64 op0), (2, .ra 1 0)]) (O' := [(1, .box [.str ByteArray.empty, .int .i64 0, .bool false, .bool false])]) (by kernel_rfl) trivial (by kernel_rfl) (by kernel_rfl) ?_
  refine seqQ_norm ?_
  refine Wp.seqN (by kernel_rfl) ?_
  refine Wp.seqN (by kernel_rfl) ?_
  obtain ⟨r_1_1, hr_1_1, h⟩ := bsome h
  refine Wp.reg tiok mix hc (by kernel_rfl) (ah := none) (rs := [some (.no), some (.call (.bool r_1_1) [] 1), some (.no)]) (kt := [0, 2, 6]) (ko := [1]) (T' := [(0, .int .i64 op0), (2, .ra 1 0), (6, .bool (!r_1_1))]) (O' := [(1, .box [.str ByteArray.empty, .int .i64 0, .bool false, .bool false])]) (by kernel_rfl) (And.intro (impl_within_s _ _ hr_1_1) (And.intro bod_91 (And.intro (Or.inl rfl : ([] : List Nat) = [] ∨ noSh (.bool r_1_1) = true) trivial))) (by kernel_rfl) (by kernel_rfl) ?_
  refine seqQ_norm ?_
  rcases itesome h with ⟨hb_1, h⟩ | ⟨hb_1, h⟩
  · refine Wp.condF (b := (!r_1_1)) (by kernel_rfl) (by kernel_rfl) (nF hb_1) ?_
    refine Wp.skipN (by kernel_rfl) ?_
    refine seqQ_norm ?_
    refine Wp.seqN (by kernel_rfl) ?_
    obtain ⟨e_3_15, hi_3_15, h⟩ := bsome h
    refine Wp.reg tiok mix hc (by kernel_rfl) (ah := none) (rs := [some (.no), some (.no), some (.no), some (.no), some (.no), some (.no), some (.no), some (.no), some (.no), some (.no), some (.no), some (.no), some (.no), some (.mk 2 true), some (.no), some (.no), some (.el (.agg [.str e_3_15.fword, .int .i64 e_3_15.fkids, .bool e_3_15.fgrade, .bool e_3_15.ftyped])), some (.no), some (.no)]) (kt := [2, 3]) (ko := [1]) (T' := [(2, .ra 1 0), (3, .bool true)]) (O' := [(1, .box [.str e_3_15.fword, .int .i64 e_3_15.fkids, .bool e_3_15.fgrade, .bool e_3_15.ftyped])]) (by kernel_rfl) (And.intro (idx_own (enc := GForm_v) hi_3_15) (And.intro (idx_sl (enc := GForm_v) (x := .agg [.str e_3_15.fword, .int .i64 e_3_15.fkids, .bool e_3_15.fgrade, .bool e_3_15.ftyped]) hi_3_15 (eq_GForm_v e_3_15)).2 trivial)) (by kernel_rfl) (by kernel_rfl) ?_
    refine seqQ_norm ?_
    refine Wp.retN (by kernel_rfl) ?_
    obtain rfl := Option.some.inj h
    exact RetQ.ret (fl := [true, true]) (by kernel_rfl)
  · refine Wp.condT (b := (!r_1_1)) (by kernel_rfl) (by kernel_rfl) (nT hb_1) ?_
    refine Wp.seqN (by kernel_rfl) ?_
    refine Wp.reg tiok mix hc (by kernel_rfl) (ah := none) (rs := [some (.no), some (.no), some (.no)]) (kt := [2, 3]) (ko := [1]) (T' := [(2, .ra 1 0), (3, .bool false)]) (O' := [(1, .box [.str ByteArray.empty, .int .i64 0, .bool false, .bool false])]) (by kernel_rfl) trivial (by kernel_rfl) (by kernel_rfl) ?_
    refine seqQ_norm ?_
    refine Wp.retN (by kernel_rfl) ?_
    refine seqQ_ret ?_
    obtain rfl := Option.some.inj h
    exact RetQ.ret (fl := [true, true]) (by kernel_rfl)
def impl_writtenSize_c1 (g0 : Int) : Option (Bool) :=
    (impl_within (g0, (-1), 15)) >>= fun r_1_1 =>
    some r_1_1
def M_impl_writtenSize_c1 (g0 : Int) (r : Bool) : Prop :=
  FnSound Try.prog 123 [.int .i64 g0] (.bool r) []
theorem impl_writtenSize_c1_s : ∀ p r, impl_writtenSize_c1 p = some r → M_impl_writtenSize_c1 p r := by
  rintro g0 r h
  unfold impl_writtenSize_c1 at h
  show FnSound Try.prog 123 [.int .i64 g0] (.bool r) []
  refine FnSound.body0 tiok (fn := Try.f123) (code := B123) (by kernel_rfl) (by kernel_rfl) (by kernel_rfl) (by kernel_rfl) (nt := 5) (by kernel_rfl) (by kernel_rfl) (T := [(0, .int .i64 g0)]) (O := []) (by kernel_rfl) (by kernel_rfl) (fun c hc => ?_)
  refine Wp.seqN (by kernel_rfl) ?_
  refine Wp.reg tiok mix hc (by kernel_rfl) (ah := none) (rs := [some (.no)]) (kt := [0]) (ko := []) (T' := [(0, .int .i64 g0)]) (O' := []) (by kernel_rfl) trivial (by kernel_rfl) (by kernel_rfl) ?_
  refine seqQ_norm ?_
  refine Wp.seqN (by kernel_rfl) ?_
  obtain ⟨r_1_1, hr_1_1, h⟩ := bsome h
  refine Wp.reg tiok mix hc (by kernel_rfl) (ah := none) (rs := [some (.no), some (.call (.bool r_1_1) [] 1), some (.no)]) (kt := [2]) (ko := []) (T' := [(2, .bool r_1_1)]) (O' := []) (by kernel_rfl) (And.intro (impl_within_s _ _ hr_1_1) (And.intro bod_91 (And.intro (Or.inl rfl : ([] : List Nat) = [] ∨ noSh (.bool r_1_1) = true) trivial))) (by kernel_rfl) (by kernel_rfl) ?_
  refine seqQ_norm ?_
  refine Wp.retN (by kernel_rfl) ?_
  obtain rfl := Option.some.inj h
  exact RetQ.ret (fl := [true]) (by kernel_rfl)
def impl_shape (code0 : Int) : Option (Int × Int) :=
    (impl_within (code0, 0, 2)) >>= fun r_1_1 =>
    if r_1_1 = true then
      some (code0, (-1))
    else
      (impl_within (code0, 3, 18)) >>= fun r_3_1 =>
      if r_3_1 = true then
        some (3, (wr (code0 - 3)))
      else
        (impl_within (code0, 19, 34)) >>= fun r_5_1 =>
        if r_5_1 = true then
          some (4, (wr (code0 - 19)))
        else
          if (code0 == 35) = true then
            some (3, (-1))
          else
            if (code0 == 36) = true then
              some (4, (-1))
            else
              some (5, (-1))
def M_impl_shape (code0 : Int) (r : Int × Int) : Prop :=
  FnSound Try.prog 111 [.int .i64 code0] (.tup [.int .i64 r.1, .int .i64 r.2]) []
theorem impl_shape_s : ∀ p r, impl_shape p = some r → M_impl_shape p r := by
  rintro code0 r h
  unfold impl_shape at h
  show FnSound Try.prog 111 [.int .i64 code0] (.tup [.int .i64 r.1, .int .i64 r.2]) []
  refine FnSound.body0 tiok (fn := Try.f111) (code := B111) (by kernel_rfl) (by kernel_rfl) (by kernel_rfl) (by kernel_rfl) (nt := 24) (by kernel_rfl) (by kernel_rfl) (T := [(0, .int .i64 code0)]) (O := []) (by kernel_rfl) (by kernel_rfl) (fun c hc => ?_)
  refine Wp.seqN (by kernel_rfl) ?_
  refine Wp.reg tiok mix hc (by kernel_rfl) (ah := none) (rs := [some (.no), some (.no)]) (kt := [0]) (ko := []) (T' := [(0, .int .i64 code0)]) (O' := []) (by kernel_rfl) trivial (by kernel_rfl) (by kernel_rfl) ?_
  refine seqQ_norm ?_
  refine Wp.seqN (by kernel_rfl) ?_
  refine Wp.blockN (i := 0) (by kernel_rfl) ?_
  refine Wp.seqN (by kernel_rfl) ?_
  obtain ⟨r_1_1, hr_1_1, h⟩ := bsome h
  refine Wp.reg tiok mix hc (by kernel_rfl) (ah := none) (rs := [some (.no), some (.call (.bool r_1_1) [] 1), some (.no)]) (kt := [0, 4]) (ko := []) (T' := [(0, .int .i64 code0), (4, .bool r_1_1)]) (O' := []) (by kernel_rfl) (And.intro (impl_within_s _ _ hr_1_1) (And.intro bod_91 (And.intro (Or.inl rfl : ([] : List Nat) = [] ∨ noSh (.bool r_1_1) = true) trivial))) (by kernel_rfl) (by kernel_rfl) ?_
  refine seqQ_norm ?_
  rcases itesome h with ⟨hb_1, h⟩ | ⟨hb_1, h⟩
  · refine Wp.condT (b := r_1_1) (by kernel_rfl) (by kernel_rfl) hb_1 ?_
    refine Wp.seqN (by kernel_rfl) ?_
    refine Wp.reg tiok mix hc (by kernel_rfl) (ah := none) (rs := [some (.no), some (.no), some (.no)]) (kt := [2, 3]) (ko := []) (T' := [(2, .int .i64 code0), (3, .int .i64 (-1))]) (O' := []) (by kernel_rfl) trivial (by kernel_rfl) (by kernel_rfl) ?_
    refine seqQ_norm ?_
    refine Wp.retN (by kernel_rfl) ?_
    refine blockQ_ret ?_
    refine seqQ_ret ?_
    obtain rfl := Option.some.inj h
    exact RetQ.ret (fl := [true, true]) (by kernel_rfl)
  · refine Wp.condF (b := r_1_1) (by kernel_rfl) (by kernel_rfl) hb_1 ?_
    refine Wp.seqN (by kernel_rfl) ?_
    obtain ⟨r_3_1, hr_3_1, h⟩ := bsome h
    refine Wp.reg tiok mix hc (by kernel_rfl) (ah := none) (rs := [some (.no), some (.call (.bool r_3_1) [] 1), some (.no)]) (kt := [0, 8]) (ko := []) (T' := [(0, .int .i64 code0), (8, .bool r_3_1)]) (O' := []) (by kernel_rfl) (And.intro (impl_within_s _ _ hr_3_1) (And.intro bod_91 (And.intro (Or.inl rfl : ([] : List Nat) = [] ∨ noSh (.bool r_3_1) = true) trivial))) (by kernel_rfl) (by kernel_rfl) ?_
    refine seqQ_norm ?_
    rcases itesome h with ⟨hb_2, h⟩ | ⟨hb_2, h⟩
    · refine Wp.condT (b := r_3_1) (by kernel_rfl) (by kernel_rfl) hb_2 ?_
      refine Wp.seqN (by kernel_rfl) ?_
      refine Wp.reg tiok mix hc (by kernel_rfl) (ah := none) (rs := [some (.no), some (.no), some (.no), some (.no)]) (kt := [2, 3]) (ko := []) (T' := [(2, .int .i64 3), (3, .int .i64 (wr (code0 - 3)))]) (O' := []) (by kernel_rfl) trivial (by kernel_rfl) (by kernel_rfl) ?_
      refine seqQ_norm ?_
      refine Wp.retN (by kernel_rfl) ?_
      refine blockQ_ret ?_
      refine seqQ_ret ?_
      obtain rfl := Option.some.inj h
      exact RetQ.ret (fl := [true, true]) (by kernel_rfl)
    · refine Wp.condF (b := r_3_1) (by kernel_rfl) (by kernel_rfl) hb_2 ?_
      refine Wp.seqN (by kernel_rfl) ?_
      obtain ⟨r_5_1, hr_5_1, h⟩ := bsome h
      refine Wp.reg tiok mix hc (by kernel_rfl) (ah := none) (rs := [some (.no), some (.call (.bool r_5_1) [] 1), some (.no)]) (kt := [0, 13]) (ko := []) (T' := [(0, .int .i64 code0), (13, .bool r_5_1)]) (O' := []) (by kernel_rfl) (And.intro (impl_within_s _ _ hr_5_1) (And.intro bod_91 (And.intro (Or.inl rfl : ([] : List Nat) = [] ∨ noSh (.bool r_5_1) = true) trivial))) (by kernel_rfl) (by kernel_rfl) ?_
      refine seqQ_norm ?_
      rcases itesome h with ⟨hb_3, h⟩ | ⟨hb_3, h⟩
      · refine Wp.condT (b := r_5_1) (by kernel_rfl) (by kernel_rfl) hb_3 ?_
        refine Wp.seqN (by kernel_rfl) ?_
        refine Wp.reg tiok mix hc (by kernel_rfl) (ah := none) (rs := [some (.no), some (.no), some (.no), some (.no)]) (kt := [2, 3]) (ko := []) (T' := [(2, .int .i64 4), (3, .int .i64 (wr (code0 - 19)))]) (O' := []) (by kernel_rfl) trivial (by kernel_rfl) (by kernel_rfl) ?_
        refine seqQ_norm ?_
        refine Wp.retN (by kernel_rfl) ?_
        refine blockQ_ret ?_
        refine seqQ_ret ?_
        obtain rfl := Option.some.inj h
        exact RetQ.ret (fl := [true, true]) (by kernel_rfl)
      · refine Wp.condF (b := r_5_1) (by kernel_rfl) (by kernel_rfl) hb_3 ?_
        refine Wp.seqN (by kernel_rfl) ?_
        refine Wp.reg tiok mix hc (by kernel_rfl) (ah := none) (rs := [some (.no), some (.no), some (.no)]) (kt := [0, 18]) (ko := []) (T' := [(0, .int .i64 code0), (18, .bool (code0 == 35))]) (O' := []) (by kernel_rfl) trivial (by kernel_rfl) (by kernel_rfl) ?_
        refine seqQ_norm ?_
        rcases itesome h with ⟨hb_4, h⟩ | ⟨hb_4, h⟩
        · refine Wp.condT (b := (code0 == 35)) (by kernel_rfl) (by kernel_rfl) hb_4 ?_
          refine Wp.seqN (by kernel_rfl) ?_
          refine Wp.reg tiok mix hc (by kernel_rfl) (ah := none) (rs := [some (.no), some (.no)]) (kt := [2, 3]) (ko := []) (T' := [(2, .int .i64 3), (3, .int .i64 (-1))]) (O' := []) (by kernel_rfl) trivial (by kernel_rfl) (by kernel_rfl) ?_
          refine seqQ_norm ?_
          refine Wp.retN (by kernel_rfl) ?_
          refine blockQ_ret ?_
          refine seqQ_ret ?_
          obtain rfl := Option.some.inj h
          exact RetQ.ret (fl := [true, true]) (by kernel_rfl)
        · refine Wp.condF (b := (code0 == 35)) (by kernel_rfl) (by kernel_rfl) hb_4 ?_
          refine Wp.seqN (by kernel_rfl) ?_
          refine Wp.reg tiok mix hc (by kernel_rfl) (ah := none) (rs := [some (.no), some (.no), some (.no)]) (kt := [21]) (ko := []) (T' := [(21, .bool (code0 == 36))]) (O' := []) (by kernel_rfl) trivial (by kernel_rfl) (by kernel_rfl) ?_
          refine seqQ_norm ?_
          rcases itesome h with ⟨hb_5, h⟩ | ⟨hb_5, h⟩
          · refine Wp.condT (b := (code0 == 36)) (by kernel_rfl) (by kernel_rfl) hb_5 ?_
            refine Wp.seqN (by kernel_rfl) ?_
            refine Wp.reg tiok mix hc (by kernel_rfl) (ah := none) (rs := [some (.no), some (.no)]) (kt := [2, 3]) (ko := []) (T' := [(2, .int .i64 4), (3, .int .i64 (-1))]) (O' := []) (by kernel_rfl) trivial (by kernel_rfl) (by kernel_rfl) ?_
            refine seqQ_norm ?_
            refine Wp.retN (by kernel_rfl) ?_
            refine blockQ_ret ?_
            refine seqQ_ret ?_
            obtain rfl := Option.some.inj h
            exact RetQ.ret (fl := [true, true]) (by kernel_rfl)
          · refine Wp.condF (b := (code0 == 36)) (by kernel_rfl) (by kernel_rfl) hb_5 ?_
            refine Wp.skipN (by kernel_rfl) ?_
            refine blockQ_norm ?_
            refine seqQ_norm ?_
            refine Wp.seqN (by kernel_rfl) ?_
            refine Wp.reg tiok mix hc (by kernel_rfl) (ah := none) (rs := [some (.no), some (.no)]) (kt := [2, 3]) (ko := []) (T' := [(2, .int .i64 5), (3, .int .i64 (-1))]) (O' := []) (by kernel_rfl) trivial (by kernel_rfl) (by kernel_rfl) ?_
            refine seqQ_norm ?_
            refine Wp.retN (by kernel_rfl) ?_
            obtain rfl := Option.some.inj h
            exact RetQ.ret (fl := [true, true]) (by kernel_rfl)
def impl_typeEnd (p : (List Int) × Int) : Option (Int) :=
  match p with
  | (ty0, at1) =>
    (
      if (decide (at1 < 0)) = true then
        some (true)
      else
        some ((decide (at1 ≥ (ty0.length : Int))))
    ) >>= fun v_1 =>
    if v_1 = true then
      some (-1)
    else
      (idx ty0 at1) >>= fun e_3_2 =>
      (impl_shape e_3_2) >>= fun (r_3_4_0, r_3_4_1) =>
      if (r_3_4_0 == 0) = true then
        some (wr (at1 + 1))
      else
        if (r_3_4_0 == 4) = true then
          (impl_typeEnd (ty0, (wr (at1 + 1)))) >>= fun r_8_3 =>
          some r_8_3
        else
          if (r_3_4_0 == 5) = true then
            some (-1)
          else
            (impl_typeEnd (ty0, (wr (at1 + 1)))) >>= fun r_11_4 =>
            (impl_typeEnd (ty0, r_11_4)) >>= fun r_11_5 =>
            some r_11_5
  partial_fixpoint
def M_impl_typeEnd (p : (List Int) × Int) (r : Int) : Prop :=
  match p with
  | (ty0, at1) => FnSound Try.prog 131 [.sl (List.map I ty0), .int .i64 at1] (.int .i64 r) []
theorem impl_typeEnd_s : ∀ p r, impl_typeEnd p = some r → M_impl_typeEnd p r := by
  refine impl_typeEnd.partial_correctness M_impl_typeEnd ?_
  rintro impl_typeEnd_f impl_typeEnd_ih ⟨ty0, at1⟩ r h
  show FnSound Try.prog 131 [.sl (List.map I ty0), .int .i64 at1] (.int .i64 r) []
  refine FnSound.body0 tiok (fn := Try.f131) (code := B131) (by kernel_rfl) (by kernel_rfl) (by kernel_rfl) (by kernel_rfl) (nt := 42) (by kernel_rfl) (by kernel_rfl) (T := [(0, .sl (List.map I ty0)), (1, .int .i64 at1)]) (O := []) (by kernel_rfl) (by kernel_rfl) (fun c hc => ?_)
  refine Wp.seqN (by kernel_rfl) ?_
  refine Wp.reg tiok mix hc (by kernel_rfl) (ah := none) (rs := [some (.no)]) (kt := [0, 1]) (ko := []) (T' := [(0, .sl (List.map I ty0)), (1, .int .i64 at1)]) (O' := []) (by kernel_rfl) trivial (by kernel_rfl) (by kernel_rfl) ?_
  refine seqQ_norm ?_
  refine Wp.seqN (by kernel_rfl) ?_
  refine Wp.seqN (by kernel_rfl) ?_
  obtain ⟨v_1, hj_2, h⟩ := bsome h
  refine Wp.into (x := .normal) (mkS [(0, .sl (List.map I ty0)), (1, .int .i64 at1), (14, .bool v_1)] []) ?_ ?_
  · replace h := hj_2
    rcases itesome h with ⟨hb_1_0, h⟩ | ⟨hb_1_0, h⟩
    · refine Wp.reg tiok mix hc (by kernel_rfl) (ah := none) (rs := [some (.no), some (.no), some (.no), none, none, none, none, some (.cond true)]) (kt := [0, 1, 14]) (ko := []) (T' := [(0, .sl (List.map I ty0)), (1, .int .i64 at1), (14, .bool true)]) (O' := []) (by kernel_rfl) (And.intro (neF hb_1_0 : (decide (at1 < 0)) ≠ false) (And.intro (neF hb_1_0 : (decide (at1 < 0)) ≠ false) (And.intro (neF hb_1_0 : (decide (at1 < 0)) ≠ false) (And.intro (neF hb_1_0 : (decide (at1 < 0)) ≠ false) (And.intro hb_1_0 trivial))))) (by kernel_rfl) (by kernel_rfl) ?_
      obtain rfl := Option.some.inj h
      exact Into.mk
    · refine Wp.reg tiok mix hc (by kernel_rfl) (ah := none) (rs := [some (.no), some (.no), some (.no), some (.no), some (.no), some (.eqv (.no) ⟨[(12, .int .i64 (ty0.length : Int))], [], []⟩), some (.no), some (.cond false)]) (kt := [0, 1, 14]) (ko := []) (T' := [(0, .sl (List.map I ty0)), (1, .int .i64 at1), (14, .bool (decide (at1 ≥ (ty0.length : Int))))]) (O' := []) (by kernel_rfl) (And.intro hb_1_0 (And.intro hb_1_0 (And.intro hb_1_0 (And.intro (lenT (d := 12) I ty0) (And.intro hb_1_0 (And.intro hb_1_0 trivial)))))) (by kernel_rfl) (by kernel_rfl) ?_
      obtain rfl := Option.some.inj h
      exact Into.mk
  · clear hj_2
    refine seqQ_norm ?_
    rcases itesome h with ⟨hb_3, h⟩ | ⟨hb_3, h⟩
    · refine Wp.condT (b := v_1) (by kernel_rfl) (by kernel_rfl) hb_3 ?_
      refine Wp.seqN (by kernel_rfl) ?_
      refine Wp.reg tiok mix hc (by kernel_rfl) (ah := none) (rs := [some (.no)]) (kt := [4]) (ko := []) (T' := [(4, .int .i64 (-1))]) (O' := []) (by kernel_rfl) trivial (by kernel_rfl) (by kernel_rfl) ?_
      refine seqQ_norm ?_
      refine Wp.retN (by kernel_rfl) ?_
      refine seqQ_ret ?_
      obtain rfl := Option.some.inj h
      exact RetQ.ret (fl := [true]) (by kernel_rfl)
    · refine Wp.condF (b := v_1) (by kernel_rfl) (by kernel_rfl) hb_3 ?_
      refine Wp.skipN (by kernel_rfl) ?_
      refine seqQ_norm ?_
      refine Wp.seqN (by kernel_rfl) ?_
      obtain ⟨e_3_2, hi_3_2, h⟩ := bsome h
      obtain ⟨⟨r_3_4_0, r_3_4_1⟩, hr_3_4, h⟩ := bsome h
      refine Wp.reg tiok mix hc (by kernel_rfl) (ah := none) (rs := [some (.no), some (.no), some (.el (.int .i64 e_3_2)), some (.no), some (.call (.tup [.int .i64 r_3_4_0, .int .i64 r_3_4_1]) [] 1), some (.no), some (.no), some (.no), some (.no), some (.no)]) (kt := [0, 1, 5]) (ko := []) (T' := [(0, .sl (List.map I ty0)), (1, .int .i64 at1), (5, .int .i64 r_3_4_0)]) (O' := []) (by kernel_rfl) (And.intro (idx_sl (enc := I) (x := .int .i64 e_3_2) hi_3_2 (eq_I e_3_2)) (And.intro (impl_shape_s _ _ hr_3_4) (And.intro bod_111 (And.intro (Or.inl rfl : ([] : List Nat) = [] ∨ noSh (.tup [.int .i64 r_3_4_0, .int .i64 r_3_4_1]) = true) trivial)))) (by kernel_rfl) (by kernel_rfl) ?_
      refine seqQ_norm ?_
      refine Wp.seqN (by kernel_rfl) ?_
      refine Wp.seqN (by kernel_rfl) ?_
      refine Wp.reg tiok mix hc (by kernel_rfl) (ah := none) (rs := [some (.no)]) (kt := [0, 1, 23]) (ko := []) (T' := [(0, .sl (List.map I ty0)), (1, .int .i64 at1), (23, .int .i64 r_3_4_0)]) (O' := []) (by kernel_rfl) trivial (by kernel_rfl) (by kernel_rfl) ?_
      refine seqQ_norm ?_
      refine Wp.blockN (i := 0) (by kernel_rfl) ?_
      refine Wp.seqN (by kernel_rfl) ?_
      refine Wp.reg tiok mix hc (by kernel_rfl) (ah := none) (rs := [some (.no), some (.no)]) (kt := [0, 1, 23, 24]) (ko := []) (T' := [(0, .sl (List.map I ty0)), (1, .int .i64 at1), (23, .int .i64 r_3_4_0), (24, .bool (r_3_4_0 == 0))]) (O' := []) (by kernel_rfl) trivial (by kernel_rfl) (by kernel_rfl) ?_
      refine seqQ_norm ?_
      rcases itesome h with ⟨hb_4, h⟩ | ⟨hb_4, h⟩
      · refine Wp.condT (b := (r_3_4_0 == 0)) (by kernel_rfl) (by kernel_rfl) hb_4 ?_
        refine Wp.seqN (by kernel_rfl) ?_
        refine Wp.reg tiok mix hc (by kernel_rfl) (ah := none) (rs := [some (.no), some (.no), some (.no)]) (kt := [4]) (ko := []) (T' := [(4, .int .i64 (wr (at1 + 1)))]) (O' := []) (by kernel_rfl) trivial (by kernel_rfl) (by kernel_rfl) ?_
        refine seqQ_norm ?_
        refine Wp.retN (by kernel_rfl) ?_
        refine blockQ_ret ?_
        refine seqQ_ret ?_
        obtain rfl := Option.some.inj h
        exact RetQ.ret (fl := [true]) (by kernel_rfl)
      · refine Wp.condF (b := (r_3_4_0 == 0)) (by kernel_rfl) (by kernel_rfl) hb_4 ?_
        refine Wp.seqN (by kernel_rfl) ?_
        refine Wp.reg tiok mix hc (by kernel_rfl) (ah := none) (rs := [some (.no), some (.no)]) (kt := [0, 1, 23, 28]) (ko := []) (T' := [(0, .sl (List.map I ty0)), (1, .int .i64 at1), (23, .int .i64 r_3_4_0), (28, .bool (r_3_4_0 == 4))]) (O' := []) (by kernel_rfl) trivial (by kernel_rfl) (by kernel_rfl) ?_
        refine seqQ_norm ?_
        rcases itesome h with ⟨hb_5, h⟩ | ⟨hb_5, h⟩
        · refine Wp.condT (b := (r_3_4_0 == 4)) (by kernel_rfl) (by kernel_rfl) hb_5 ?_
          refine Wp.seqN (by kernel_rfl) ?_
          obtain ⟨r_8_3, hr_8_3, h⟩ := bsome h
          refine Wp.reg tiok mix hc (by kernel_rfl) (ah := none) (rs := [some (.no), some (.no), some (.no), some (.call (.int .i64 r_8_3) [] 1), some (.no)]) (kt := [4]) (ko := []) (T' := [(4, .int .i64 r_8_3)]) (O' := []) (by kernel_rfl) (And.intro (impl_typeEnd_ih _ _ hr_8_3) (And.intro bod_131 (And.intro (Or.inl rfl : ([] : List Nat) = [] ∨ noSh (.int .i64 r_8_3) = true) trivial))) (by kernel_rfl) (by kernel_rfl) ?_
          refine seqQ_norm ?_
          refine Wp.retN (by kernel_rfl) ?_
          refine blockQ_ret ?_
          refine seqQ_ret ?_
          obtain rfl := Option.some.inj h
          exact RetQ.ret (fl := [true]) (by kernel_rfl)
        · refine Wp.condF (b := (r_3_4_0 == 4)) (by kernel_rfl) (by kernel_rfl) hb_5 ?_
          refine Wp.seqN (by kernel_rfl) ?_
          refine Wp.reg tiok mix hc (by kernel_rfl) (ah := none) (rs := [some (.no), some (.no)]) (kt := [0, 1, 34]) (ko := []) (T' := [(0, .sl (List.map I ty0)), (1, .int .i64 at1), (34, .bool (r_3_4_0 == 5))]) (O' := []) (by kernel_rfl) trivial (by kernel_rfl) (by kernel_rfl) ?_
          refine seqQ_norm ?_
          rcases itesome h with ⟨hb_6, h⟩ | ⟨hb_6, h⟩
          · refine Wp.condT (b := (r_3_4_0 == 5)) (by kernel_rfl) (by kernel_rfl) hb_6 ?_
            refine Wp.seqN (by kernel_rfl) ?_
            refine Wp.reg tiok mix hc (by kernel_rfl) (ah := none) (rs := [some (.no)]) (kt := [4]) (ko := []) (T' := [(4, .int .i64 (-1))]) (O' := []) (by kernel_rfl) trivial (by kernel_rfl) (by kernel_rfl) ?_
            refine seqQ_norm ?_
            refine Wp.retN (by kernel_rfl) ?_
            refine blockQ_ret ?_
            refine seqQ_ret ?_
            obtain rfl := Option.some.inj h
            exact RetQ.ret (fl := [true]) (by kernel_rfl)
          · refine Wp.condF (b := (r_3_4_0 == 5)) (by kernel_rfl) (by kernel_rfl) hb_6 ?_
            refine Wp.skipN (by kernel_rfl) ?_
            refine blockQ_norm ?_
            refine seqQ_norm ?_
            refine Wp.seqN (by kernel_rfl) ?_
            obtain ⟨r_11_4, hr_11_4, h⟩ := bsome h
            obtain ⟨r_11_5, hr_11_5, h⟩ := bsome h
            refine Wp.reg tiok mix hc (by kernel_rfl) (ah := none) (rs := [some (.no), some (.no), some (.no), some (.no), some (.call (.int .i64 r_11_4) [] 1), some (.call (.int .i64 r_11_5) [] 1), some (.no)]) (kt := [4]) (ko := []) (T' := [(4, .int .i64 r_11_5)]) (O' := []) (by kernel_rfl) (And.intro (impl_typeEnd_ih _ _ hr_11_4) (And.intro bod_131 (And.intro (Or.inl rfl : ([] : List Nat) = [] ∨ noSh (.int .i64 r_11_4) = true) (And.intro (impl_typeEnd_ih _ _ hr_11_5) (And.intro bod_131 (And.intro (Or.inl rfl : ([] : List Nat) = [] ∨ noSh (.int .i64 r_11_5) = true) trivial)))))) (by kernel_rfl) (by kernel_rfl) ?_
            refine seqQ_norm ?_
            refine Wp.retN (by kernel_rfl) ?_
            obtain rfl := Option.some.inj h
            exact RetQ.ret (fl := [true]) (by kernel_rfl)
def impl_isWrittenType (ty0 : (List Int)) : Option (Bool) :=
    (
      (impl_within ((ty0.length : Int), 1, 40)) >>= fun r_1_2 =>
      if r_1_2 = true then
        (impl_typeEnd (ty0, 0)) >>= fun r_1_5 =>
        some ((r_1_5 == (ty0.length : Int)))
      else
        some (false)
    ) >>= fun v_1 =>
    some v_1
def M_impl_isWrittenType (ty0 : (List Int)) (r : Bool) : Prop :=
  FnSound Try.prog 124 [.sl (List.map I ty0)] (.bool r) []
theorem impl_isWrittenType_s : ∀ p r, impl_isWrittenType p = some r → M_impl_isWrittenType p r := by
  rintro ty0 r h
  unfold impl_isWrittenType at h
  show FnSound Try.prog 124 [.sl (List.map I ty0)] (.bool r) []
  refine FnSound.body0 tiok (fn := Try.f124) (code := B124) (by kernel_rfl) (by kernel_rfl) (by kernel_rfl) (by kernel_rfl) (nt := 13) (by kernel_rfl) (by kernel_rfl) (T := [(0, .sl (List.map I ty0))]) (O := []) (by kernel_rfl) (by kernel_rfl) (fun c hc => ?_)
  refine Wp.seqN (by kernel_rfl) ?_
  refine Wp.reg tiok mix hc (by kernel_rfl) (ah := none) (rs := [some (.no)]) (kt := [0]) (ko := []) (T' := [(0, .sl (List.map I ty0))]) (O' := []) (by kernel_rfl) trivial (by kernel_rfl) (by kernel_rfl) ?_
  refine seqQ_norm ?_
  refine Wp.seqN (by kernel_rfl) ?_
  obtain ⟨v_1, hj_2, h⟩ := bsome h
  refine Wp.into (x := .normal) (mkS [(2, .bool v_1)] []) ?_ ?_
  · replace h := hj_2
    obtain ⟨r_1_2, hr_1_2, h⟩ := bsome h
    rcases itesome h with ⟨hb_1_0, h⟩ | ⟨hb_1_0, h⟩
    · obtain ⟨r_1_5, hr_1_5, h⟩ := bsome h
      refine Wp.reg tiok mix hc (by kernel_rfl) (ah := none) (rs := [some (.no), some (.eqv (.no) ⟨[(4, .int .i64 (ty0.length : Int))], [], []⟩), some (.call (.bool r_1_2) [] 1), some (.no), some (.no), some (.call (.int .i64 r_1_5) [] 1), some (.no), some (.eqv (.no) ⟨[(10, .int .i64 (ty0.length : Int))], [], []⟩), some (.no), some (.cond true), some (.no)]) (kt := [2]) (ko := []) (T' := [(2, .bool (r_1_5 == (ty0.length : Int)))]) (O' := []) (by kernel_rfl) (And.intro (lenT (d := 4) I ty0) (And.intro (impl_within_s _ _ hr_1_2) (And.intro bod_91 (And.intro (Or.inl rfl : ([] : List Nat) = [] ∨ noSh (.bool r_1_2) = true) (And.intro hb_1_0 (And.intro hb_1_0 (And.intro (impl_typeEnd_s _ _ hr_1_5) (And.intro bod_131 (And.intro (Or.inl rfl : ([] : List Nat) = [] ∨ noSh (.int .i64 r_1_5) = true) (And.intro hb_1_0 (And.intro hb_1_0 (And.intro (lenT (d := 10) I ty0) (And.intro hb_1_0 (And.intro hb_1_0 trivial)))))))))))))) (by kernel_rfl) (by kernel_rfl) ?_
      obtain rfl := Option.some.inj h
      exact Into.mk
    · refine Wp.reg tiok mix hc (by kernel_rfl) (ah := none) (rs := [some (.no), some (.eqv (.no) ⟨[(4, .int .i64 (ty0.length : Int))], [], []⟩), some (.call (.bool r_1_2) [] 1), some (.no), none, none, none, none, none, some (.cond false), some (.no)]) (kt := [2]) (ko := []) (T' := [(2, .bool false)]) (O' := []) (by kernel_rfl) (And.intro (lenT (d := 4) I ty0) (And.intro (impl_within_s _ _ hr_1_2) (And.intro bod_91 (And.intro (Or.inl rfl : ([] : List Nat) = [] ∨ noSh (.bool r_1_2) = true) (And.intro (neT hb_1_0 : r_1_2 ≠ true) (And.intro (neT hb_1_0 : r_1_2 ≠ true) (And.intro (neT hb_1_0 : r_1_2 ≠ true) (And.intro (neT hb_1_0 : r_1_2 ≠ true) (And.intro (neT hb_1_0 : r_1_2 ≠ true) (And.intro hb_1_0 trivial)))))))))) (by kernel_rfl) (by kernel_rfl) ?_
      obtain rfl := Option.some.inj h
      exact Into.mk
  · clear hj_2
    refine seqQ_norm ?_
    refine Wp.retN (by kernel_rfl) ?_
    obtain rfl := Option.some.inj h
    exact RetQ.ret (fl := [true]) (by kernel_rfl)
end Go.Am
