/- Functions of the program as pure functions, and that it computes them. Printed by a program of mine (gen.py). -/
import Derived.Test.YtlegifoeekcolaaGOAF0
set_option linter.unusedVariables false
set_option linter.unusedSimpArgs false
set_option maxRecDepth 100000
namespace Go.Am
open Go Go.Proofs
def spec_l2Node (p : GTerm × Int × Int × Bool) : Option (Bool) :=
  match p with
  | (t0, n1, size2, closed3) =>
    (spec_l2Many t0.fOp) >>= fun r_1_5 =>
    if ((t0.fKids.length : Int) != r_1_5) = true then
      some false
    else
      ((
        if (t0.fOp == 0) = true then
          (spec_l1In (t0.fN, 0, (wr (n1 - 1)))) >>= fun r_6_4 =>
          if r_6_4 = true then
            some (.inl ())
          else
            some (.inr false)
        else
          ((
            if (t0.fOp == 1) = true then
              (spec_l1In (t0.fN, 0, 2)) >>= fun r_9_2 =>
              if r_9_2 = true then
                some (.inl ())
              else
                some (.inr false)
            else
              (spec_l2Has t0.fOp) >>= fun r_11_2 =>
              ((
                if r_11_2 = true then
                  (
                    if (decide (t0.fN ≥ size2)) = true then
                      some (true)
                    else
                      if (decide (t0.fN < (-1))) = true then
                        some (true)
                      else
                        if closed3 = true then
                          some ((decide (t0.fN < 0)))
                        else
                          some (false)
                  ) >>= fun v_7 =>
                  if v_7 = true then
                    some (.inr false)
                  else
                    some (.inl ())
                else
                  if (t0.fN != 0) = true then
                    some (.inr false)
                  else
                    some (.inl ())) : Option ((Unit) ⊕ (Bool))) >>= fun fl => match fl with
              | .inl () =>
                some (.inl ())
              | .inr r =>
                some (.inr r)) : Option ((Unit) ⊕ (Bool))) >>= fun fl => match fl with
          | .inl () =>
            some (.inl ())
          | .inr r =>
            some (.inr r)) : Option ((Unit) ⊕ (Bool))) >>= fun fl => match fl with
      | .inl () =>
        (spec_l2Typed t0.fOp) >>= fun r_14_2 =>
        if r_14_2 = true then
          (
            (spec_l2Type t0.fType) >>= fun r_16_2 =>
            if r_16_2 = true then
              (spec_l2Graded (t0.fType, size2, closed3)) >>= fun r_16_8 =>
              some (r_16_8)
            else
              some (false)
          ) >>= fun v_15 =>
          some v_15
        else
          some ((t0.fType.length : Int) == 0)
      | .inr r =>
        some r
def M_spec_l2Node (p : GTerm × Int × Int × Bool) (r : Bool) : Prop :=
  match p with
  | (t0, n1, size2, closed3) => FnSound Try.prog 122 [.agg [.int .i64 t0.fOp, .int .i64 t0.fN, .sl (List.map I t0.fType), .sl (List.map GTerm_S t0.fKids)], .int .i64 n1, .int .i64 size2, .bool closed3] (.bool r) []
theorem spec_l2Node_s : ∀ p r, spec_l2Node p = some r → M_spec_l2Node p r := by
  rintro ⟨t0, n1, size2, closed3⟩ r h
  unfold spec_l2Node at h
  show FnSound Try.prog 122 [.agg [.int .i64 t0.fOp, .int .i64 t0.fN, .sl (List.map I t0.fType), .sl (List.map GTerm_S t0.fKids)], .int .i64 n1, .int .i64 size2, .bool closed3] (.bool r) []
  refine FnSound.body0 tiok (fn := Try.f122) (code := B122) (by kernel_rfl) (by kernel_rfl) (by kernel_rfl) (by kernel_rfl) (nt := 76) (by kernel_rfl) (by kernel_rfl) (T := [(0, .agg [.int .i64 t0.fOp, .int .i64 t0.fN, .sl (List.map I t0.fType), .sl (List.map GTerm_S t0.fKids)]), (1, .int .i64 n1), (2, .int .i64 size2), (3, .bool closed3)]) (O := []) (by kernel_rfl) (by kernel_rfl) (fun c hc => ?_)
  refine Wp.seqN (by kernel_rfl) ?_
  refine Wp.reg tiok mix hc (by kernel_rfl) (ah := none) (rs := [some (.new 1), some (.no)]) (kt := [1, 2, 3, 4]) (ko := [1]) (T' := [(1, .int .i64 n1), (2, .int .i64 size2), (3, .bool closed3), (4, .ra 1 0)]) (O' := [(1, .box [.int .i64 t0.fOp, .int .i64 t0.fN, .sl (List.map I t0.fType), .sl (List.map GTerm_S t0.fKids)])]) (by kernel_rfl) trivial (by kernel_rfl) (by kernel_rfl) ?_
  refine seqQ_norm ?_
  refine Wp.seqN (by kernel_rfl) ?_
  refine Wp.seqN (by kernel_rfl) ?_
  obtain ⟨r_1_5, hr_1_5, h⟩ := bsome h
  refine Wp.reg tiok mix hc (by kernel_rfl) (ah := (some [[], [0], [0, 1], [], [3], [3, 4], [0, 1, 2, 3, 4, 5]])) (rs := [some (.no), some (.no), some (.eqv (.no) ⟨[(11, .int .i64 (t0.fKids.length : Int))], [], []⟩), some (.no), some (.no), some (.call (.int .i64 r_1_5) [] 1), some (.no)]) (kt := [1, 2, 3, 4, 15]) (ko := [1]) (T' := [(1, .int .i64 n1), (2, .int .i64 size2), (3, .bool closed3), (4, .ra 1 0), (15, .bool ((t0.fKids.length : Int) != r_1_5))]) (O' := [(1, .box [.int .i64 t0.fOp, .int .i64 t0.fN, .sl (List.map I t0.fType), .sl (List.map GTerm_S t0.fKids)])]) (by kernel_rfl) (And.intro (lenT (d := 11) GTerm_S t0.fKids) (And.intro (spec_l2Many_s _ _ hr_1_5) (And.intro bod_133 (And.intro (Or.inl rfl : ([] : List Nat) = [] ∨ noSh (.int .i64 r_1_5) = true) trivial)))) (by kernel_rfl) (by kernel_rfl) ?_
  refine seqQ_norm ?_
  rcases itesome h with ⟨hb_1, h⟩ | ⟨hb_1, h⟩
  · refine Wp.condT (b := ((t0.fKids.length : Int) != r_1_5)) (by kernel_rfl) (by kernel_rfl) hb_1 ?_
    refine Wp.seqN (by kernel_rfl) ?_
    refine Wp.reg tiok mix hc (by kernel_rfl) (ah := none) (rs := [some (.no)]) (kt := [8]) (ko := []) (T' := [(8, .bool false)]) (O' := []) (by kernel_rfl) trivial (by kernel_rfl) (by kernel_rfl) ?_
    refine seqQ_norm ?_
    refine Wp.retN (by kernel_rfl) ?_
    refine seqQ_ret ?_
    obtain rfl := Option.some.inj h
    exact RetQ.ret (fl := [true]) (by kernel_rfl)
  · refine Wp.condF (b := ((t0.fKids.length : Int) != r_1_5)) (by kernel_rfl) (by kernel_rfl) hb_1 ?_
    refine Wp.skipN (by kernel_rfl) ?_
    refine seqQ_norm ?_
    refine Wp.seqN (by kernel_rfl) ?_
    refine Wp.blockN (i := 0) (by kernel_rfl) ?_
    refine Wp.seqN (by kernel_rfl) ?_
    refine Wp.reg tiok mix hc (by kernel_rfl) (ah := none) (rs := [some (.no), some (.no), some (.no), some (.no)]) (kt := [1, 2, 3, 4, 19]) (ko := [1]) (T' := [(1, .int .i64 n1), (2, .int .i64 size2), (3, .bool closed3), (4, .ra 1 0), (19, .bool (t0.fOp == 0))]) (O' := [(1, .box [.int .i64 t0.fOp, .int .i64 t0.fN, .sl (List.map I t0.fType), .sl (List.map GTerm_S t0.fKids)])]) (by kernel_rfl) trivial (by kernel_rfl) (by kernel_rfl) ?_
    refine seqQ_norm ?_
    obtain ⟨fl, hj_13, h⟩ := bsome h
    have hF : Wp Try.prog c (cr (cl (cl (cr (cr B122))))) (spec_l2Node_F3 c t0 size2 closed3 fl) (mkS [(1, .int .i64 n1), (2, .int .i64 size2), (3, .bool closed3), (4, .ra 1 0), (19, .bool (t0.fOp == 0))] [(1, .box [.int .i64 t0.fOp, .int .i64 t0.fN, .sl (List.map I t0.fType), .sl (List.map GTerm_S t0.fKids)])]) := by
      replace h := hj_13
      rcases itesome h with ⟨hb_2, h⟩ | ⟨hb_2, h⟩
      · refine Wp.condT (b := (t0.fOp == 0)) (by kernel_rfl) (by kernel_rfl) hb_2 ?_
        refine Wp.seqN (by kernel_rfl) ?_
        obtain ⟨r_6_4, hr_6_4, h⟩ := bsome h
        refine Wp.reg tiok mix hc (by kernel_rfl) (ah := none) (rs := [some (.no), some (.no), some (.no), some (.no), some (.call (.bool r_6_4) [] 1), some (.no)]) (kt := [2, 3, 4, 28]) (ko := [1]) (T' := [(2, .int .i64 size2), (3, .bool closed3), (4, .ra 1 0), (28, .bool (!r_6_4))]) (O' := [(1, .box [.int .i64 t0.fOp, .int .i64 t0.fN, .sl (List.map I t0.fType), .sl (List.map GTerm_S t0.fKids)])]) (by kernel_rfl) (And.intro (spec_l1In_s _ _ hr_6_4) (And.intro bod_70 (And.intro (Or.inl rfl : ([] : List Nat) = [] ∨ noSh (.bool r_6_4) = true) trivial))) (by kernel_rfl) (by kernel_rfl) ?_
        refine seqQ_norm ?_
        rcases itesome h with ⟨hb_3, h⟩ | ⟨hb_3, h⟩
        · refine Wp.condF (b := (!r_6_4)) (by kernel_rfl) (by kernel_rfl) (nF hb_3) ?_
          refine Wp.skipN (by kernel_rfl) ?_
          obtain rfl := Option.some.inj h
          exact Into.view (fun a w hv => SRx.renL [] hv (by kernel_rfl) (by kernel_rfl) (by kernel_rfl))
        · refine Wp.condT (b := (!r_6_4)) (by kernel_rfl) (by kernel_rfl) (nT hb_3) ?_
          refine Wp.seqN (by kernel_rfl) ?_
          refine Wp.reg tiok mix hc (by kernel_rfl) (ah := none) (rs := [some (.no)]) (kt := [8]) (ko := []) (T' := [(8, .bool false)]) (O' := []) (by kernel_rfl) trivial (by kernel_rfl) (by kernel_rfl) ?_
          refine seqQ_norm ?_
          refine Wp.retN (by kernel_rfl) ?_
          obtain rfl := Option.some.inj h
          exact RetE.ret (fl := [true]) (by kernel_rfl)
      · refine Wp.condF (b := (t0.fOp == 0)) (by kernel_rfl) (by kernel_rfl) hb_2 ?_
        refine Wp.seqN (by kernel_rfl) ?_
        refine Wp.reg tiok mix hc (by kernel_rfl) (ah := none) (rs := [some (.no), some (.no), some (.no), some (.no)]) (kt := [2, 3, 4, 29]) (ko := [1]) (T' := [(2, .int .i64 size2), (3, .bool closed3), (4, .ra 1 0), (29, .bool (t0.fOp == 1))]) (O' := [(1, .box [.int .i64 t0.fOp, .int .i64 t0.fN, .sl (List.map I t0.fType), .sl (List.map GTerm_S t0.fKids)])]) (by kernel_rfl) trivial (by kernel_rfl) (by kernel_rfl) ?_
        refine seqQ_norm ?_
        obtain ⟨fl, hj_12, h⟩ := bsome h
        have hF : Wp Try.prog c (cr (cr (cr (cl (cl (cr (cr B122))))))) (spec_l2Node_F2 c t0 size2 closed3 fl) (mkS [(2, .int .i64 size2), (3, .bool closed3), (4, .ra 1 0), (29, .bool (t0.fOp == 1))] [(1, .box [.int .i64 t0.fOp, .int .i64 t0.fN, .sl (List.map I t0.fType), .sl (List.map GTerm_S t0.fKids)])]) := by
          replace h := hj_12
          rcases itesome h with ⟨hb_4, h⟩ | ⟨hb_4, h⟩
          · refine Wp.condT (b := (t0.fOp == 1)) (by kernel_rfl) (by kernel_rfl) hb_4 ?_
            refine Wp.seqN (by kernel_rfl) ?_
            obtain ⟨r_9_2, hr_9_2, h⟩ := bsome h
            refine Wp.reg tiok mix hc (by kernel_rfl) (ah := none) (rs := [some (.no), some (.no), some (.call (.bool r_9_2) [] 1), some (.no)]) (kt := [2, 3, 4, 36]) (ko := [1]) (T' := [(2, .int .i64 size2), (3, .bool closed3), (4, .ra 1 0), (36, .bool (!r_9_2))]) (O' := [(1, .box [.int .i64 t0.fOp, .int .i64 t0.fN, .sl (List.map I t0.fType), .sl (List.map GTerm_S t0.fKids)])]) (by kernel_rfl) (And.intro (spec_l1In_s _ _ hr_9_2) (And.intro bod_70 (And.intro (Or.inl rfl : ([] : List Nat) = [] ∨ noSh (.bool r_9_2) = true) trivial))) (by kernel_rfl) (by kernel_rfl) ?_
            refine seqQ_norm ?_
            rcases itesome h with ⟨hb_5, h⟩ | ⟨hb_5, h⟩
            · refine Wp.condF (b := (!r_9_2)) (by kernel_rfl) (by kernel_rfl) (nF hb_5) ?_
              refine Wp.skipN (by kernel_rfl) ?_
              obtain rfl := Option.some.inj h
              exact Into.view (fun a w hv => SRx.renL [] hv (by kernel_rfl) (by kernel_rfl) (by kernel_rfl))
            · refine Wp.condT (b := (!r_9_2)) (by kernel_rfl) (by kernel_rfl) (nT hb_5) ?_
              refine Wp.seqN (by kernel_rfl) ?_
              refine Wp.reg tiok mix hc (by kernel_rfl) (ah := none) (rs := [some (.no)]) (kt := [8]) (ko := []) (T' := [(8, .bool false)]) (O' := []) (by kernel_rfl) trivial (by kernel_rfl) (by kernel_rfl) ?_
              refine seqQ_norm ?_
              refine Wp.retN (by kernel_rfl) ?_
              obtain rfl := Option.some.inj h
              exact RetE.ret (fl := [true]) (by kernel_rfl)
          · refine Wp.condF (b := (t0.fOp == 1)) (by kernel_rfl) (by kernel_rfl) hb_4 ?_
            refine Wp.seqN (by kernel_rfl) ?_
            obtain ⟨r_11_2, hr_11_2, h⟩ := bsome h
            refine Wp.reg tiok mix hc (by kernel_rfl) (ah := none) (rs := [some (.no), some (.no), some (.call (.bool r_11_2) [] 1), some (.no)]) (kt := [2, 3, 4, 37]) (ko := [1]) (T' := [(2, .int .i64 size2), (3, .bool closed3), (4, .ra 1 0), (37, .bool r_11_2)]) (O' := [(1, .box [.int .i64 t0.fOp, .int .i64 t0.fN, .sl (List.map I t0.fType), .sl (List.map GTerm_S t0.fKids)])]) (by kernel_rfl) (And.intro (spec_l2Has_s _ _ hr_11_2) (And.intro bod_98 (And.intro (Or.inl rfl : ([] : List Nat) = [] ∨ noSh (.bool r_11_2) = true) trivial))) (by kernel_rfl) (by kernel_rfl) ?_
            refine seqQ_norm ?_
            obtain ⟨fl, hj_11, h⟩ := bsome h
            have hF : Wp Try.prog c (cr (cr (cr (cr (cr (cl (cl (cr (cr B122))))))))) (spec_l2Node_F1 c t0 size2 closed3 fl) (mkS [(2, .int .i64 size2), (3, .bool closed3), (4, .ra 1 0), (37, .bool r_11_2)] [(1, .box [.int .i64 t0.fOp, .int .i64 t0.fN, .sl (List.map I t0.fType), .sl (List.map GTerm_S t0.fKids)])]) := by
              replace h := hj_11
              rcases itesome h with ⟨hb_6, h⟩ | ⟨hb_6, h⟩
              · refine Wp.condT (b := r_11_2) (by kernel_rfl) (by kernel_rfl) hb_6 ?_
                refine Wp.seqN (by kernel_rfl) ?_
                obtain ⟨v_7, hj_8, h⟩ := bsome h
                refine Wp.into (x := .normal) (mkS [(2, .int .i64 size2), (3, .bool closed3), (4, .ra 1 0), (57, .bool v_7)] [(1, .box [.int .i64 t0.fOp, .int .i64 t0.fN, .sl (List.map I t0.fType), .sl (List.map GTerm_S t0.fKids)])]) ?_ ?_
                · replace h := hj_8
                  rcases itesome h with ⟨hb_12_0, h⟩ | ⟨hb_12_0, h⟩
                  · refine Wp.reg tiok mix hc (by kernel_rfl) (ah := none) (rs := [some (.no), some (.no), some (.no), some (.no), some (.no), none, none, none, some (.cond true), some (.no), none, none, none, none, none, none, some (.cond true)]) (kt := [2, 3, 4, 57]) (ko := [1]) (T' := [(2, .int .i64 size2), (3, .bool closed3), (4, .ra 1 0), (57, .bool true)]) (O' := [(1, .box [.int .i64 t0.fOp, .int .i64 t0.fN, .sl (List.map I t0.fType), .sl (List.map GTerm_S t0.fKids)])]) (by kernel_rfl) (And.intro (neF hb_12_0 : (decide (t0.fN ≥ size2)) ≠ false) (And.intro (neF hb_12_0 : (decide (t0.fN ≥ size2)) ≠ false) (And.intro (neF hb_12_0 : (decide (t0.fN ≥ size2)) ≠ false) (And.intro hb_12_0 (And.intro (neF (rfl : true = true) : true ≠ false) (And.intro (neF (rfl : true = true) : true ≠ false) (And.intro (neF (rfl : true = true) : true ≠ false) (And.intro (rfl : true = true) trivial)))))))) (by kernel_rfl) (by kernel_rfl) ?_
                    obtain rfl := Option.some.inj h
                    exact Into.mk
                  · rcases itesome h with ⟨hb_12_1, h⟩ | ⟨hb_12_1, h⟩
                    · refine Wp.reg tiok mix hc (by kernel_rfl) (ah := none) (rs := [some (.no), some (.no), some (.no), some (.no), some (.no), some (.no), some (.no), some (.no), some (.cond false), some (.no), none, none, none, none, none, none, some (.cond true)]) (kt := [2, 3, 4, 57]) (ko := [1]) (T' := [(2, .int .i64 size2), (3, .bool closed3), (4, .ra 1 0), (57, .bool true)]) (O' := [(1, .box [.int .i64 t0.fOp, .int .i64 t0.fN, .sl (List.map I t0.fType), .sl (List.map GTerm_S t0.fKids)])]) (by kernel_rfl) (And.intro hb_12_0 (And.intro hb_12_0 (And.intro hb_12_0 (And.intro hb_12_0 (And.intro (neF hb_12_1 : (decide (t0.fN < (-1))) ≠ false) (And.intro (neF hb_12_1 : (decide (t0.fN < (-1))) ≠ false) (And.intro (neF hb_12_1 : (decide (t0.fN < (-1))) ≠ false) (And.intro hb_12_1 trivial)))))))) (by kernel_rfl) (by kernel_rfl) ?_
                      obtain rfl := Option.some.inj h
                      exact Into.mk
                    · rcases itesome h with ⟨hb_12_2, h⟩ | ⟨hb_12_2, h⟩
                      · refine Wp.reg tiok mix hc (by kernel_rfl) (ah := none) (rs := [some (.no), some (.no), some (.no), some (.no), some (.no), some (.no), some (.no), some (.no), some (.cond false), some (.no), some (.no), some (.no), some (.no), some (.no), some (.no), some (.cond true), some (.cond false)]) (kt := [2, 3, 4, 57]) (ko := [1]) (T' := [(2, .int .i64 size2), (3, .bool closed3), (4, .ra 1 0), (57, .bool (decide (t0.fN < 0)))]) (O' := [(1, .box [.int .i64 t0.fOp, .int .i64 t0.fN, .sl (List.map I t0.fType), .sl (List.map GTerm_S t0.fKids)])]) (by kernel_rfl) (And.intro hb_12_0 (And.intro hb_12_0 (And.intro hb_12_0 (And.intro hb_12_0 (And.intro hb_12_1 (And.intro hb_12_1 (And.intro hb_12_2 (And.intro hb_12_2 (And.intro hb_12_2 (And.intro hb_12_1 (And.intro hb_12_2 (And.intro hb_12_1 trivial)))))))))))) (by kernel_rfl) (by kernel_rfl) ?_
                        obtain rfl := Option.some.inj h
                        exact Into.mk
                      · refine Wp.reg tiok mix hc (by kernel_rfl) (ah := none) (rs := [some (.no), some (.no), some (.no), some (.no), some (.no), some (.no), some (.no), some (.no), some (.cond false), some (.no), some (.no), some (.no), none, none, none, some (.cond false), some (.cond false)]) (kt := [2, 3, 4, 57]) (ko := [1]) (T' := [(2, .int .i64 size2), (3, .bool closed3), (4, .ra 1 0), (57, .bool false)]) (O' := [(1, .box [.int .i64 t0.fOp, .int .i64 t0.fN, .sl (List.map I t0.fType), .sl (List.map GTerm_S t0.fKids)])]) (by kernel_rfl) (And.intro hb_12_0 (And.intro hb_12_0 (And.intro hb_12_0 (And.intro hb_12_0 (And.intro hb_12_1 (And.intro hb_12_1 (And.intro (neT hb_12_2 : closed3 ≠ true) (And.intro (neT hb_12_2 : closed3 ≠ true) (And.intro (neT hb_12_2 : closed3 ≠ true) (And.intro hb_12_1 (And.intro hb_12_2 (And.intro hb_12_1 trivial)))))))))))) (by kernel_rfl) (by kernel_rfl) ?_
                        obtain rfl := Option.some.inj h
                        exact Into.mk
                · clear hj_8
                  refine seqQ_norm ?_
                  rcases itesome h with ⟨hb_9, h⟩ | ⟨hb_9, h⟩
                  · refine Wp.condT (b := v_7) (by kernel_rfl) (by kernel_rfl) hb_9 ?_
                    refine Wp.seqN (by kernel_rfl) ?_
                    refine Wp.reg tiok mix hc (by kernel_rfl) (ah := none) (rs := [some (.no)]) (kt := [8]) (ko := []) (T' := [(8, .bool false)]) (O' := []) (by kernel_rfl) trivial (by kernel_rfl) (by kernel_rfl) ?_
                    refine seqQ_norm ?_
                    refine Wp.retN (by kernel_rfl) ?_
                    obtain rfl := Option.some.inj h
                    exact RetE.ret (fl := [true]) (by kernel_rfl)
                  · refine Wp.condF (b := v_7) (by kernel_rfl) (by kernel_rfl) hb_9 ?_
                    refine Wp.skipN (by kernel_rfl) ?_
                    obtain rfl := Option.some.inj h
                    exact Into.view (fun a w hv => SRx.renL [] hv (by kernel_rfl) (by kernel_rfl) (by kernel_rfl))
              · refine Wp.condF (b := r_11_2) (by kernel_rfl) (by kernel_rfl) hb_6 ?_
                refine Wp.seqN (by kernel_rfl) ?_
                refine Wp.reg tiok mix hc (by kernel_rfl) (ah := none) (rs := [some (.no), some (.no), some (.no)]) (kt := [2, 3, 4, 18]) (ko := [1]) (T' := [(2, .int .i64 size2), (3, .bool closed3), (4, .ra 1 0), (18, .bool (t0.fN != 0))]) (O' := [(1, .box [.int .i64 t0.fOp, .int .i64 t0.fN, .sl (List.map I t0.fType), .sl (List.map GTerm_S t0.fKids)])]) (by kernel_rfl) trivial (by kernel_rfl) (by kernel_rfl) ?_
                refine seqQ_norm ?_
                rcases itesome h with ⟨hb_10, h⟩ | ⟨hb_10, h⟩
                · refine Wp.condT (b := (t0.fN != 0)) (by kernel_rfl) (by kernel_rfl) hb_10 ?_
                  refine Wp.seqN (by kernel_rfl) ?_
                  refine Wp.reg tiok mix hc (by kernel_rfl) (ah := none) (rs := [some (.no)]) (kt := [8]) (ko := []) (T' := [(8, .bool false)]) (O' := []) (by kernel_rfl) trivial (by kernel_rfl) (by kernel_rfl) ?_
                  refine seqQ_norm ?_
                  refine Wp.retN (by kernel_rfl) ?_
                  obtain rfl := Option.some.inj h
                  exact RetE.ret (fl := [true]) (by kernel_rfl)
                · refine Wp.condF (b := (t0.fN != 0)) (by kernel_rfl) (by kernel_rfl) hb_10 ?_
                  refine Wp.skipN (by kernel_rfl) ?_
                  obtain rfl := Option.some.inj h
                  exact Into.view (fun a w hv => SRx.renL [] hv (by kernel_rfl) (by kernel_rfl) (by kernel_rfl))
            rcases fl with ⟨⟩ | r
            · refine Wp.into (x := .normal) (mkS [(2, .int .i64 size2), (3, .bool closed3), (4, .ra 1 0)] [(1, .box [.int .i64 t0.fOp, .int .i64 t0.fN, .sl (List.map I t0.fType), .sl (List.map GTerm_S t0.fKids)])]) hF ?_
              obtain rfl := Option.some.inj h
              exact Into.mk
            · refine Wp.mono hF ?_
              rintro _ _ ⟨rfl, hfin⟩
              obtain rfl := Option.some.inj h
              exact ⟨rfl, hfin⟩
        rcases fl with ⟨⟩ | r
        · refine Wp.into (x := .normal) (mkS [(2, .int .i64 size2), (3, .bool closed3), (4, .ra 1 0)] [(1, .box [.int .i64 t0.fOp, .int .i64 t0.fN, .sl (List.map I t0.fType), .sl (List.map GTerm_S t0.fKids)])]) hF ?_
          obtain rfl := Option.some.inj h
          exact Into.mk
        · refine Wp.mono hF ?_
          rintro _ _ ⟨rfl, hfin⟩
          obtain rfl := Option.some.inj h
          exact ⟨rfl, hfin⟩
    rcases fl with ⟨⟩ | r
    · refine Wp.into (x := .normal) (mkS [(2, .int .i64 size2), (3, .bool closed3), (4, .ra 1 0)] [(1, .box [.int .i64 t0.fOp, .int .i64 t0.fN, .sl (List.map I t0.fType), .sl (List.map GTerm_S t0.fKids)])]) hF ?_
      refine blockQ_norm ?_
      refine seqQ_norm ?_
      refine Wp.seqN (by kernel_rfl) ?_
      refine Wp.seqN (by kernel_rfl) ?_
      obtain ⟨r_14_2, hr_14_2, h⟩ := bsome h
      refine Wp.reg tiok mix hc (by kernel_rfl) (ah := none) (rs := [some (.no), some (.no), some (.call (.bool r_14_2) [] 1), some (.no)]) (kt := [2, 3, 4, 61]) (ko := [1]) (T' := [(2, .int .i64 size2), (3, .bool closed3), (4, .ra 1 0), (61, .bool (!r_14_2))]) (O' := [(1, .box [.int .i64 t0.fOp, .int .i64 t0.fN, .sl (List.map I t0.fType), .sl (List.map GTerm_S t0.fKids)])]) (by kernel_rfl) (And.intro (spec_l2Typed_s _ _ hr_14_2) (And.intro bod_134 (And.intro (Or.inl rfl : ([] : List Nat) = [] ∨ noSh (.bool r_14_2) = true) trivial))) (by kernel_rfl) (by kernel_rfl) ?_
      refine seqQ_norm ?_
      rcases itesome h with ⟨hb_14, h⟩ | ⟨hb_14, h⟩
      · refine Wp.condF (b := (!r_14_2)) (by kernel_rfl) (by kernel_rfl) (nF hb_14) ?_
        refine Wp.skipN (by kernel_rfl) ?_
        refine seqQ_norm ?_
        refine Wp.seqN (by kernel_rfl) ?_
        obtain ⟨v_15, hj_16, h⟩ := bsome h
        refine Wp.into (x := .normal) (mkS [(8, .bool v_15)] []) ?_ ?_
        · replace h := hj_16
          obtain ⟨r_16_2, hr_16_2, h⟩ := bsome h
          rcases itesome h with ⟨hb_16_0, h⟩ | ⟨hb_16_0, h⟩
          · obtain ⟨r_16_8, hr_16_8, h⟩ := bsome h
            refine Wp.reg tiok mix hc (by kernel_rfl) (ah := none) (rs := [some (.no), some (.no), some (.call (.bool r_16_2) [] 1), some (.no), some (.no), some (.no), some (.no), some (.no), some (.call (.bool r_16_8) [] 1), some (.cond true), some (.no)]) (kt := [8]) (ko := []) (T' := [(8, .bool r_16_8)]) (O' := []) (by kernel_rfl) (And.intro (spec_l2Type_s _ _ hr_16_2) (And.intro bod_125 (And.intro (Or.inl rfl : ([] : List Nat) = [] ∨ noSh (.bool r_16_2) = true) (And.intro hb_16_0 (And.intro hb_16_0 (And.intro hb_16_0 (And.intro hb_16_0 (And.intro hb_16_0 (And.intro (spec_l2Graded_s _ _ hr_16_8) (And.intro bod_126 (And.intro (Or.inl rfl : ([] : List Nat) = [] ∨ noSh (.bool r_16_8) = true) (And.intro hb_16_0 trivial)))))))))))) (by kernel_rfl) (by kernel_rfl) ?_
            obtain rfl := Option.some.inj h
            exact Into.mk
          · refine Wp.reg tiok mix hc (by kernel_rfl) (ah := none) (rs := [some (.no), some (.no), some (.call (.bool r_16_2) [] 1), some (.no), none, none, none, none, none, some (.cond false), some (.no)]) (kt := [8]) (ko := []) (T' := [(8, .bool false)]) (O' := []) (by kernel_rfl) (And.intro (spec_l2Type_s _ _ hr_16_2) (And.intro bod_125 (And.intro (Or.inl rfl : ([] : List Nat) = [] ∨ noSh (.bool r_16_2) = true) (And.intro (neT hb_16_0 : r_16_2 ≠ true) (And.intro (neT hb_16_0 : r_16_2 ≠ true) (And.intro (neT hb_16_0 : r_16_2 ≠ true) (And.intro (neT hb_16_0 : r_16_2 ≠ true) (And.intro (neT hb_16_0 : r_16_2 ≠ true) (And.intro hb_16_0 trivial))))))))) (by kernel_rfl) (by kernel_rfl) ?_
            obtain rfl := Option.some.inj h
            exact Into.mk
        · clear hj_16
          refine seqQ_norm ?_
          refine Wp.retN (by kernel_rfl) ?_
          obtain rfl := Option.some.inj h
          exact RetQ.ret (fl := [true]) (by kernel_rfl)
      · refine Wp.condT (b := (!r_14_2)) (by kernel_rfl) (by kernel_rfl) (nT hb_14) ?_
        refine Wp.seqN (by kernel_rfl) ?_
        refine Wp.reg tiok mix hc (by kernel_rfl) (ah := none) (rs := [some (.no), some (.no), some (.eqv (.no) ⟨[(64, .int .i64 (t0.fType.length : Int))], [], []⟩), some (.no), some (.no)]) (kt := [8]) (ko := []) (T' := [(8, .bool ((t0.fType.length : Int) == 0))]) (O' := []) (by kernel_rfl) (And.intro (lenT (d := 64) I t0.fType) trivial) (by kernel_rfl) (by kernel_rfl) ?_
        refine seqQ_norm ?_
        refine Wp.retN (by kernel_rfl) ?_
        refine seqQ_ret ?_
        obtain rfl := Option.some.inj h
        exact RetQ.ret (fl := [true]) (by kernel_rfl)
    · refine Wp.mono hF ?_
      rintro _ _ ⟨rfl, hfin⟩
      refine blockQ_ret ?_
      refine seqQ_ret ?_
      obtain rfl := Option.some.inj h
      exact ⟨.inl rfl, hfin⟩
def spec_l2Adds (p : Int × Int) : Option (Int) :=
  match p with
  | (op0, kid1) =>
    (
      if (op0 == 5) = true then
        some ((kid1 == 1))
      else
        some (false)
    ) >>= fun v_1 =>
    if v_1 = true then
      some 2
    else
      (
        if (op0 == 8) = true then
          if (decide (kid1 > 0)) = true then
            some (true)
          else
            if (op0 == 9) = true then
              some (true)
            else
              if (op0 == 12) = true then
                some ((kid1 == 1))
              else
                some (false)
        else
          if (op0 == 9) = true then
            some (true)
          else
            if (op0 == 12) = true then
              some ((kid1 == 1))
            else
              some (false)
      ) >>= fun v_4 =>
      if v_4 = true then
        some 1
      else
        some 0
def M_spec_l2Adds (p : Int × Int) (r : Int) : Prop :=
  match p with
  | (op0, kid1) => FnSound Try.prog 113 [.int .i64 op0, .int .i64 kid1] (.int .i64 r) []
theorem spec_l2Adds_s : ∀ p r, spec_l2Adds p = some r → M_spec_l2Adds p r := by
  rintro ⟨op0, kid1⟩ r h
  unfold spec_l2Adds at h
  show FnSound Try.prog 113 [.int .i64 op0, .int .i64 kid1] (.int .i64 r) []
  refine FnSound.body0 tiok (fn := Try.f113) (code := B113) (by kernel_rfl) (by kernel_rfl) (by kernel_rfl) (by kernel_rfl) (nt := 31) (by kernel_rfl) (by kernel_rfl) (T := [(0, .int .i64 op0), (1, .int .i64 kid1)]) (O := []) (by kernel_rfl) (by kernel_rfl) (fun c hc => ?_)
  refine Wp.seqN (by kernel_rfl) ?_
  refine Wp.reg tiok mix hc (by kernel_rfl) (ah := none) (rs := [some (.no)]) (kt := [0, 1]) (ko := []) (T' := [(0, .int .i64 op0), (1, .int .i64 kid1)]) (O' := []) (by kernel_rfl) trivial (by kernel_rfl) (by kernel_rfl) ?_
  refine seqQ_norm ?_
  refine Wp.seqN (by kernel_rfl) ?_
  refine Wp.blockN (i := 0) (by kernel_rfl) ?_
  refine Wp.seqN (by kernel_rfl) ?_
  obtain ⟨v_1, hj_2, h⟩ := bsome h
  refine Wp.into (x := .normal) (mkS [(0, .int .i64 op0), (1, .int .i64 kid1), (5, .bool v_1)] []) ?_ ?_
  · replace h := hj_2
    rcases itesome h with ⟨hb_1_0, h⟩ | ⟨hb_1_0, h⟩
    · refine Wp.reg tiok mix hc (by kernel_rfl) (ah := none) (rs := [some (.no), some (.no), some (.no), some (.no), some (.no), some (.cond true), some (.no)]) (kt := [0, 1, 5]) (ko := []) (T' := [(0, .int .i64 op0), (1, .int .i64 kid1), (5, .bool (kid1 == 1))]) (O' := []) (by kernel_rfl) (And.intro hb_1_0 (And.intro hb_1_0 (And.intro hb_1_0 trivial))) (by kernel_rfl) (by kernel_rfl) ?_
      obtain rfl := Option.some.inj h
      exact Into.mk
    · refine Wp.reg tiok mix hc (by kernel_rfl) (ah := none) (rs := [some (.no), some (.no), some (.no), none, none, some (.cond false), some (.no)]) (kt := [0, 1, 5]) (ko := []) (T' := [(0, .int .i64 op0), (1, .int .i64 kid1), (5, .bool false)]) (O' := []) (by kernel_rfl) (And.intro (neT hb_1_0 : (op0 == 5) ≠ true) (And.intro (neT hb_1_0 : (op0 == 5) ≠ true) (And.intro hb_1_0 trivial))) (by kernel_rfl) (by kernel_rfl) ?_
      obtain rfl := Option.some.inj h
      exact Into.mk
  · clear hj_2
    refine seqQ_norm ?_
    rcases itesome h with ⟨hb_3, h⟩ | ⟨hb_3, h⟩
    · refine Wp.condT (b := v_1) (by kernel_rfl) (by kernel_rfl) hb_3 ?_
      refine Wp.seqN (by kernel_rfl) ?_
      refine Wp.reg tiok mix hc (by kernel_rfl) (ah := none) (rs := [some (.no)]) (kt := [4]) (ko := []) (T' := [(4, .int .i64 2)]) (O' := []) (by kernel_rfl) trivial (by kernel_rfl) (by kernel_rfl) ?_
      refine seqQ_norm ?_
      refine Wp.retN (by kernel_rfl) ?_
      refine blockQ_ret ?_
      refine seqQ_ret ?_
      obtain rfl := Option.some.inj h
      exact RetQ.ret (fl := [true]) (by kernel_rfl)
    · refine Wp.condF (b := v_1) (by kernel_rfl) (by kernel_rfl) hb_3 ?_
      refine Wp.seqN (by kernel_rfl) ?_
      obtain ⟨v_4, hj_5, h⟩ := bsome h
      refine Wp.into (x := .normal) (mkS [(12, .bool v_4)] []) ?_ ?_
      · replace h := hj_5
        rcases itesome h with ⟨hb_3_0, h⟩ | ⟨hb_3_0, h⟩
        · rcases itesome h with ⟨hb_3_1, h⟩ | ⟨hb_3_1, h⟩
          · refine Wp.reg tiok mix hc (by kernel_rfl) (ah := none) (rs := [some (.no), some (.no), some (.no), some (.no), some (.no), some (.cond true), some (.no), none, none, some (.cond true), some (.no), none, none, none, none, none, none, some (.cond true), some (.no)]) (kt := [12]) (ko := []) (T' := [(12, .bool true)]) (O' := []) (by kernel_rfl) (And.intro hb_3_0 (And.intro hb_3_0 (And.intro hb_3_0 (And.intro (neF hb_3_1 : (decide (kid1 > 0)) ≠ false) (And.intro (neF hb_3_1 : (decide (kid1 > 0)) ≠ false) (And.intro hb_3_1 (And.intro (neF (rfl : true = true) : true ≠ false) (And.intro (neF (rfl : true = true) : true ≠ false) (And.intro (neF (rfl : true = true) : true ≠ false) (And.intro (neF (rfl : true = true) : true ≠ false) (And.intro (rfl : true = true) trivial))))))))))) (by kernel_rfl) (by kernel_rfl) ?_
            obtain rfl := Option.some.inj h
            exact Into.mk
          · rcases itesome h with ⟨hb_3_2, h⟩ | ⟨hb_3_2, h⟩
            · refine Wp.reg tiok mix hc (by kernel_rfl) (ah := none) (rs := [some (.no), some (.no), some (.no), some (.no), some (.no), some (.cond true), some (.no), some (.no), some (.no), some (.cond false), some (.no), none, none, none, none, none, none, some (.cond true), some (.no)]) (kt := [12]) (ko := []) (T' := [(12, .bool true)]) (O' := []) (by kernel_rfl) (And.intro hb_3_0 (And.intro hb_3_0 (And.intro hb_3_0 (And.intro hb_3_1 (And.intro hb_3_1 (And.intro hb_3_1 (And.intro (neF hb_3_2 : (op0 == 9) ≠ false) (And.intro (neF hb_3_2 : (op0 == 9) ≠ false) (And.intro (neF hb_3_2 : (op0 == 9) ≠ false) (And.intro (neF hb_3_2 : (op0 == 9) ≠ false) (And.intro hb_3_2 trivial))))))))))) (by kernel_rfl) (by kernel_rfl) ?_
              obtain rfl := Option.some.inj h
              exact Into.mk
            · rcases itesome h with ⟨hb_3_3, h⟩ | ⟨hb_3_3, h⟩
              · refine Wp.reg tiok mix hc (by kernel_rfl) (ah := none) (rs := [some (.no), some (.no), some (.no), some (.no), some (.no), some (.cond true), some (.no), some (.no), some (.no), some (.cond false), some (.no), some (.no), some (.no), some (.no), some (.no), some (.no), some (.cond true), some (.cond false), some (.no)]) (kt := [12]) (ko := []) (T' := [(12, .bool (kid1 == 1))]) (O' := []) (by kernel_rfl) (And.intro hb_3_0 (And.intro hb_3_0 (And.intro hb_3_0 (And.intro hb_3_1 (And.intro hb_3_1 (And.intro hb_3_1 (And.intro hb_3_2 (And.intro hb_3_2 (And.intro hb_3_2 (And.intro hb_3_3 (And.intro hb_3_3 (And.intro hb_3_2 (And.intro hb_3_3 (And.intro hb_3_2 trivial)))))))))))))) (by kernel_rfl) (by kernel_rfl) ?_
                obtain rfl := Option.some.inj h
                exact Into.mk
              · refine Wp.reg tiok mix hc (by kernel_rfl) (ah := none) (rs := [some (.no), some (.no), some (.no), some (.no), some (.no), some (.cond true), some (.no), some (.no), some (.no), some (.cond false), some (.no), some (.no), some (.no), some (.no), none, none, some (.cond false), some (.cond false), some (.no)]) (kt := [12]) (ko := []) (T' := [(12, .bool false)]) (O' := []) (by kernel_rfl) (And.intro hb_3_0 (And.intro hb_3_0 (And.intro hb_3_0 (And.intro hb_3_1 (And.intro hb_3_1 (And.intro hb_3_1 (And.intro hb_3_2 (And.intro hb_3_2 (And.intro hb_3_2 (And.intro (neT hb_3_3 : (op0 == 12) ≠ true) (And.intro (neT hb_3_3 : (op0 == 12) ≠ true) (And.intro hb_3_2 (And.intro hb_3_3 (And.intro hb_3_2 trivial)))))))))))))) (by kernel_rfl) (by kernel_rfl) ?_
                obtain rfl := Option.some.inj h
                exact Into.mk
        · rcases itesome h with ⟨hb_3_1, h⟩ | ⟨hb_3_1, h⟩
          · refine Wp.reg tiok mix hc (by kernel_rfl) (ah := none) (rs := [some (.no), some (.no), some (.no), none, none, some (.cond false), some (.no), some (.no), some (.no), some (.cond false), some (.no), none, none, none, none, none, none, some (.cond true), some (.no)]) (kt := [12]) (ko := []) (T' := [(12, .bool true)]) (O' := []) (by kernel_rfl) (And.intro (neT hb_3_0 : (op0 == 8) ≠ true) (And.intro (neT hb_3_0 : (op0 == 8) ≠ true) (And.intro hb_3_0 (And.intro (rfl : false = false) (And.intro (rfl : false = false) (And.intro (rfl : false = false) (And.intro (neF hb_3_1 : (op0 == 9) ≠ false) (And.intro (neF hb_3_1 : (op0 == 9) ≠ false) (And.intro (neF hb_3_1 : (op0 == 9) ≠ false) (And.intro (neF hb_3_1 : (op0 == 9) ≠ false) (And.intro hb_3_1 trivial))))))))))) (by kernel_rfl) (by kernel_rfl) ?_
            obtain rfl := Option.some.inj h
            exact Into.mk
          · rcases itesome h with ⟨hb_3_2, h⟩ | ⟨hb_3_2, h⟩
            · refine Wp.reg tiok mix hc (by kernel_rfl) (ah := none) (rs := [some (.no), some (.no), some (.no), none, none, some (.cond false), some (.no), some (.no), some (.no), some (.cond false), some (.no), some (.no), some (.no), some (.no), some (.no), some (.no), some (.cond true), some (.cond false), some (.no)]) (kt := [12]) (ko := []) (T' := [(12, .bool (kid1 == 1))]) (O' := []) (by kernel_rfl) (And.intro (neT hb_3_0 : (op0 == 8) ≠ true) (And.intro (neT hb_3_0 : (op0 == 8) ≠ true) (And.intro hb_3_0 (And.intro (rfl : false = false) (And.intro (rfl : false = false) (And.intro (rfl : false = false) (And.intro hb_3_1 (And.intro hb_3_1 (And.intro hb_3_1 (And.intro hb_3_2 (And.intro hb_3_2 (And.intro hb_3_1 (And.intro hb_3_2 (And.intro hb_3_1 trivial)))))))))))))) (by kernel_rfl) (by kernel_rfl) ?_
              obtain rfl := Option.some.inj h
              exact Into.mk
            · refine Wp.reg tiok mix hc (by kernel_rfl) (ah := none) (rs := [some (.no), some (.no), some (.no), none, none, some (.cond false), some (.no), some (.no), some (.no), some (.cond false), some (.no), some (.no), some (.no), some (.no), none, none, some (.cond false), some (.cond false), some (.no)]) (kt := [12]) (ko := []) (T' := [(12, .bool false)]) (O' := []) (by kernel_rfl) (And.intro (neT hb_3_0 : (op0 == 8) ≠ true) (And.intro (neT hb_3_0 : (op0 == 8) ≠ true) (And.intro hb_3_0 (And.intro (rfl : false = false) (And.intro (rfl : false = false) (And.intro (rfl : false = false) (And.intro hb_3_1 (And.intro hb_3_1 (And.intro hb_3_1 (And.intro (neT hb_3_2 : (op0 == 12) ≠ true) (And.intro (neT hb_3_2 : (op0 == 12) ≠ true) (And.intro hb_3_1 (And.intro hb_3_2 (And.intro hb_3_1 trivial)))))))))))))) (by kernel_rfl) (by kernel_rfl) ?_
              obtain rfl := Option.some.inj h
              exact Into.mk
      · clear hj_5
        refine seqQ_norm ?_
        rcases itesome h with ⟨hb_6, h⟩ | ⟨hb_6, h⟩
        · refine Wp.condT (b := v_4) (by kernel_rfl) (by kernel_rfl) hb_6 ?_
          refine Wp.seqN (by kernel_rfl) ?_
          refine Wp.reg tiok mix hc (by kernel_rfl) (ah := none) (rs := [some (.no)]) (kt := [4]) (ko := []) (T' := [(4, .int .i64 1)]) (O' := []) (by kernel_rfl) trivial (by kernel_rfl) (by kernel_rfl) ?_
          refine seqQ_norm ?_
          refine Wp.retN (by kernel_rfl) ?_
          refine blockQ_ret ?_
          refine seqQ_ret ?_
          obtain rfl := Option.some.inj h
          exact RetQ.ret (fl := [true]) (by kernel_rfl)
        · refine Wp.condF (b := v_4) (by kernel_rfl) (by kernel_rfl) hb_6 ?_
          refine Wp.skipN (by kernel_rfl) ?_
          refine blockQ_norm ?_
          refine seqQ_norm ?_
          refine Wp.seqN (by kernel_rfl) ?_
          refine Wp.reg tiok mix hc (by kernel_rfl) (ah := none) (rs := [some (.no)]) (kt := [4]) (ko := []) (T' := [(4, .int .i64 0)]) (O' := []) (by kernel_rfl) trivial (by kernel_rfl) (by kernel_rfl) ?_
          refine seqQ_norm ?_
          refine Wp.retN (by kernel_rfl) ?_
          obtain rfl := Option.some.inj h
          exact RetQ.ret (fl := [true]) (by kernel_rfl)
def spec_l2Term_F1 (c : Ctx) : (Unit) ⊕ (Bool) → Exit → AState → Prop
  | .inl _ => Into c (.exit 0) (mkS [] [])
  | .inr r => RetE TIx Try.f97 [] (.bool r)
mutual
def spec_l2Term (p : GTerm × Int × Int × Bool) : Option (Bool) :=
  match p with
  | (t0, n1, size2, closed3) =>
    (spec_l2Node (t0, n1, size2, closed3)) >>= fun r_1_4 =>
    if r_1_4 = true then
      (spec_l2Term_l0 (t0, n1, size2, closed3, 0)) >>= fun fl => match fl with
      | .inl () =>
        some true
      | .inr r =>
        some r
    else
      some false
  partial_fixpoint
def spec_l2Term_l0 (p : GTerm × Int × Int × Bool × Int) : Option ((Unit) ⊕ (Bool)) :=
  match p with
  | (t0, n1, size2, closed3, k_4) =>
    if (decide (k_4 < (t0.fKids.length : Int))) = true then
      (idx t0.fKids k_4) >>= fun e_6_3 =>
      (spec_l2Adds (t0.fOp, k_4)) >>= fun r_6_9 =>
      (spec_l2Term (e_6_3, (wr (n1 + r_6_9)), size2, closed3)) >>= fun r_6_13 =>
      if r_6_13 = true then
        spec_l2Term_l0 (t0, n1, size2, closed3, (wr (k_4 + 1)))
      else
        some (.inr false)
    else
      some (.inl ())
  partial_fixpoint
end
def M_spec_l2Term (p : GTerm × Int × Int × Bool) (r : Bool) : Prop :=
  match p with
  | (t0, n1, size2, closed3) => FnSound Try.prog 97 [.agg [.int .i64 t0.fOp, .int .i64 t0.fN, .sl (List.map I t0.fType), .sl (List.map GTerm_S t0.fKids)], .int .i64 n1, .int .i64 size2, .bool closed3] (.bool r) []
def M_spec_l2Term_l0 (p : GTerm × Int × Int × Bool × Int) (fl : (Unit) ⊕ (Bool)) : Prop :=
  match p with
  | (t0, n1, size2, closed3, k_4) => ∀ c : Ctx, c.nt = 38 → WpL Try.prog c (cl (cl (cr (cl (cr (cr B97)))))) (spec_l2Term_F1 c fl) (mkS [(1, .int .i64 n1), (2, .int .i64 size2), (3, .bool closed3), (4, .ra 1 0), (9, .int .i64 k_4)] [(1, .box [.int .i64 t0.fOp, .int .i64 t0.fN, .sl (List.map I t0.fType), .sl (List.map GTerm_S t0.fKids)])])
theorem spec_l2Term_all : (∀ p r, spec_l2Term p = some r → M_spec_l2Term p r) ∧ (∀ p r, spec_l2Term_l0 p = some r → M_spec_l2Term_l0 p r) := by
  refine spec_l2Term.mutual_partial_correctness M_spec_l2Term M_spec_l2Term_l0 ?_ ?_
  · rintro spec_l2Term_l0_f spec_l2Term_l0_ih ⟨t0, n1, size2, closed3⟩ r h
    show FnSound Try.prog 97 [.agg [.int .i64 t0.fOp, .int .i64 t0.fN, .sl (List.map I t0.fType), .sl (List.map GTerm_S t0.fKids)], .int .i64 n1, .int .i64 size2, .bool closed3] (.bool r) []
    refine FnSound.body0 tiok (fn := Try.f97) (code := B97) (by kernel_rfl) (by kernel_rfl) (by kernel_rfl) (by kernel_rfl) (nt := 38) (by kernel_rfl) (by kernel_rfl) (T := [(0, .agg [.int .i64 t0.fOp, .int .i64 t0.fN, .sl (List.map I t0.fType), .sl (List.map GTerm_S t0.fKids)]), (1, .int .i64 n1), (2, .int .i64 size2), (3, .bool closed3)]) (O := []) (by kernel_rfl) (by kernel_rfl) (fun c hc => ?_)
    refine Wp.seqN (by kernel_rfl) ?_
    refine Wp.reg tiok mix hc (by kernel_rfl) (ah := none) (rs := [some (.new 1), some (.no)]) (kt := [1, 2, 3, 4]) (ko := [1]) (T' := [(1, .int .i64 n1), (2, .int .i64 size2), (3, .bool closed3), (4, .ra 1 0)]) (O' := [(1, .box [.int .i64 t0.fOp, .int .i64 t0.fN, .sl (List.map I t0.fType), .sl (List.map GTerm_S t0.fKids)])]) (by kernel_rfl) trivial (by kernel_rfl) (by kernel_rfl) ?_
    refine seqQ_norm ?_
    refine Wp.seqN (by kernel_rfl) ?_
    refine Wp.seqN (by kernel_rfl) ?_
    obtain ⟨r_1_4, hr_1_4, h⟩ := bsome h
    refine Wp.reg tiok mix hc (by kernel_rfl) (ah := none) (rs := [some (.no), some (.no), some (.no), some (.no), some (.call (.bool r_1_4) [] 1), some (.no)]) (kt := [1, 2, 3, 4, 15]) (ko := [1]) (T' := [(1, .int .i64 n1), (2, .int .i64 size2), (3, .bool closed3), (4, .ra 1 0), (15, .bool (!r_1_4))]) (O' := [(1, .box [.int .i64 t0.fOp, .int .i64 t0.fN, .sl (List.map I t0.fType), .sl (List.map GTerm_S t0.fKids)])]) (by kernel_rfl) (And.intro (spec_l2Node_s _ _ hr_1_4) (And.intro bod_122 (And.intro (Or.inl rfl : ([] : List Nat) = [] ∨ noSh (.bool r_1_4) = true) trivial))) (by kernel_rfl) (by kernel_rfl) ?_
    refine seqQ_norm ?_
    rcases itesome h with ⟨hb_1, h⟩ | ⟨hb_1, h⟩
    · refine Wp.condF (b := (!r_1_4)) (by kernel_rfl) (by kernel_rfl) (nF hb_1) ?_
      refine Wp.skipN (by kernel_rfl) ?_
      refine seqQ_norm ?_
      refine Wp.seqN (by kernel_rfl) ?_
      refine Wp.seqN (by kernel_rfl) ?_
      refine Wp.reg tiok mix hc (by kernel_rfl) (ah := none) (rs := [some (.no)]) (kt := [1, 2, 3, 4, 9]) (ko := [1]) (T' := [(1, .int .i64 n1), (2, .int .i64 size2), (3, .bool closed3), (4, .ra 1 0), (9, .int .i64 0)]) (O' := [(1, .box [.int .i64 t0.fOp, .int .i64 t0.fN, .sl (List.map I t0.fType), .sl (List.map GTerm_S t0.fKids)])]) (by kernel_rfl) trivial (by kernel_rfl) (by kernel_rfl) ?_
      refine seqQ_norm ?_
      refine Wp.blockN (i := 0) (by kernel_rfl) ?_
      obtain ⟨fl, hl_7, h⟩ := bsome h
      have hL := spec_l2Term_l0_ih _ _ hl_7 c hc
      refine Wp.loopN (by kernel_rfl) ?_
      rcases fl with ⟨⟩ | r
      · refine WpL.into (e := (.exit 0)) (mkS [] []) hL ?_
        refine blockQ_hit ?_
        refine seqQ_norm ?_
        refine Wp.seqN (by kernel_rfl) ?_
        refine Wp.reg tiok mix hc (by kernel_rfl) (ah := none) (rs := [some (.no)]) (kt := [8]) (ko := []) (T' := [(8, .bool true)]) (O' := []) (by kernel_rfl) trivial (by kernel_rfl) (by kernel_rfl) ?_
        refine seqQ_norm ?_
        refine Wp.retN (by kernel_rfl) ?_
        obtain rfl := Option.some.inj h
        exact RetQ.ret (fl := [true]) (by kernel_rfl)
      · refine WpL.mono hL ?_
        rintro _ _ ⟨rfl, hfin⟩
        refine blockQ_ret ?_
        refine seqQ_ret ?_
        obtain rfl := Option.some.inj h
        exact ⟨.inl rfl, hfin⟩
    · refine Wp.condT (b := (!r_1_4)) (by kernel_rfl) (by kernel_rfl) (nT hb_1) ?_
      refine Wp.seqN (by kernel_rfl) ?_
      refine Wp.reg tiok mix hc (by kernel_rfl) (ah := none) (rs := [some (.no)]) (kt := [8]) (ko := []) (T' := [(8, .bool false)]) (O' := []) (by kernel_rfl) trivial (by kernel_rfl) (by kernel_rfl) ?_
      refine seqQ_norm ?_
      refine Wp.retN (by kernel_rfl) ?_
      refine seqQ_ret ?_
      obtain rfl := Option.some.inj h
      exact RetQ.ret (fl := [true]) (by kernel_rfl)
  · rintro spec_l2Term_f spec_l2Term_l0_f spec_l2Term_ih spec_l2Term_l0_ih ⟨t0, n1, size2, closed3, k_4⟩ r h
    intro c hc
    show WpL Try.prog c (cl (cl (cr (cl (cr (cr B97)))))) (spec_l2Term_F1 c r) (mkS [(1, .int .i64 n1), (2, .int .i64 size2), (3, .bool closed3), (4, .ra 1 0), (9, .int .i64 k_4)] [(1, .box [.int .i64 t0.fOp, .int .i64 t0.fN, .sl (List.map I t0.fType), .sl (List.map GTerm_S t0.fKids)])])
    refine WpL.step ?_
    refine Wp.seqN (by kernel_rfl) ?_
    refine Wp.seqN (by kernel_rfl) ?_
    refine Wp.reg tiok mix hc (by kernel_rfl) (ah := none) (rs := [some (.no), some (.no), some (.no), some (.eqv (.no) ⟨[(19, .int .i64 (t0.fKids.length : Int))], [], []⟩), some (.no)]) (kt := [1, 2, 3, 4, 9, 20]) (ko := [1]) (T' := [(1, .int .i64 n1), (2, .int .i64 size2), (3, .bool closed3), (4, .ra 1 0), (9, .int .i64 k_4), (20, .bool (decide (k_4 < (t0.fKids.length : Int))))]) (O' := [(1, .box [.int .i64 t0.fOp, .int .i64 t0.fN, .sl (List.map I t0.fType), .sl (List.map GTerm_S t0.fKids)])]) (by kernel_rfl) (And.intro (lenT (d := 19) GTerm_S t0.fKids) trivial) (by kernel_rfl) (by kernel_rfl) ?_
    refine seqQ_norm ?_
    rcases itesome h with ⟨hb_5, h⟩ | ⟨hb_5, h⟩
    · refine Wp.condT (b := (decide (k_4 < (t0.fKids.length : Int)))) (by kernel_rfl) (by kernel_rfl) hb_5 ?_
      refine Wp.skipN (by kernel_rfl) ?_
      refine seqQ_norm ?_
      refine Wp.seqN (by kernel_rfl) ?_
      refine Wp.blockN (i := 1) (by kernel_rfl) ?_
      refine Wp.seqN (by kernel_rfl) ?_
      obtain ⟨e_6_3, hi_6_3, h⟩ := bsome h
      obtain ⟨r_6_9, hr_6_9, h⟩ := bsome h
      obtain ⟨r_6_13, hr_6_13, h⟩ := bsome h
      refine Wp.reg tiok mix hc (by kernel_rfl) (ah := (some [[], [0], [], [0, 1, 2], [0, 1, 2, 3], [], [], [6], [], [6, 7, 8], [5, 6, 7, 8, 9], [], [], [0, 1, 2, 3, 4, 5, 6, 7, 8, 9, 10, 11, 12], [0, 1, 2, 3, 4, 5, 6, 7, 8, 9, 10, 11, 12, 13]])) (rs := [some (.no), some (.no), some (.no), some (.el (.agg [.int .i64 e_6_3.fOp, .int .i64 e_6_3.fN, .sl (List.map I e_6_3.fType), .sl (List.map GTerm_S e_6_3.fKids)])), some (.no), some (.no), some (.no), some (.no), some (.no), some (.call (.int .i64 r_6_9) [] 1), some (.no), some (.no), some (.no), some (.call (.bool r_6_13) [] 1), some (.no)]) (kt := [1, 2, 3, 4, 9, 37]) (ko := [1]) (T' := [(1, .int .i64 n1), (2, .int .i64 size2), (3, .bool closed3), (4, .ra 1 0), (9, .int .i64 k_4), (37, .bool (!r_6_13))]) (O' := [(1, .box [.int .i64 t0.fOp, .int .i64 t0.fN, .sl (List.map I t0.fType), .sl (List.map GTerm_S t0.fKids)])]) (by kernel_rfl) (And.intro (idx_sl (enc := GTerm_S) (x := .agg [.int .i64 e_6_3.fOp, .int .i64 e_6_3.fN, .sl (List.map I e_6_3.fType), .sl (List.map GTerm_S e_6_3.fKids)]) hi_6_3 (eq_GTerm_S e_6_3)) (And.intro (spec_l2Adds_s _ _ hr_6_9) (And.intro bod_113 (And.intro (Or.inl rfl : ([] : List Nat) = [] ∨ noSh (.int .i64 r_6_9) = true) (And.intro (spec_l2Term_ih _ _ hr_6_13) (And.intro bod_97 (And.intro (Or.inl rfl : ([] : List Nat) = [] ∨ noSh (.bool r_6_13) = true) trivial))))))) (by kernel_rfl) (by kernel_rfl) ?_
      refine seqQ_norm ?_
      rcases itesome h with ⟨hb_6, h⟩ | ⟨hb_6, h⟩
      · refine Wp.condF (b := (!r_6_13)) (by kernel_rfl) (by kernel_rfl) (nF hb_6) ?_
        refine Wp.skipN (by kernel_rfl) ?_
        refine blockQ_norm ?_
        refine seqQ_norm ?_
        refine Wp.reg tiok mix hc (by kernel_rfl) (ah := none) (rs := [some (.no), some (.no), some (.no)]) (kt := [1, 2, 3, 4, 9]) (ko := [1]) (T' := [(1, .int .i64 n1), (2, .int .i64 size2), (3, .bool closed3), (4, .ra 1 0), (9, .int .i64 (wr (k_4 + 1)))]) (O' := [(1, .box [.int .i64 t0.fOp, .int .i64 t0.fN, .sl (List.map I t0.fType), .sl (List.map GTerm_S t0.fKids)])]) (by kernel_rfl) trivial (by kernel_rfl) (by kernel_rfl) ?_
        refine loopQ_norm ?_
        exact (spec_l2Term_l0_ih _ _ h c hc)
      · refine Wp.condT (b := (!r_6_13)) (by kernel_rfl) (by kernel_rfl) (nT hb_6) ?_
        refine Wp.seqN (by kernel_rfl) ?_
        refine Wp.reg tiok mix hc (by kernel_rfl) (ah := none) (rs := [some (.no)]) (kt := [8]) (ko := []) (T' := [(8, .bool false)]) (O' := []) (by kernel_rfl) trivial (by kernel_rfl) (by kernel_rfl) ?_
        refine seqQ_norm ?_
        refine Wp.retN (by kernel_rfl) ?_
        refine blockQ_ret ?_
        refine seqQ_ret ?_
        refine loopQ_ret ?_
        obtain rfl := Option.some.inj h
        exact RetE.ret (fl := [true]) (by kernel_rfl)
    · refine Wp.condF (b := (decide (k_4 < (t0.fKids.length : Int)))) (by kernel_rfl) (by kernel_rfl) hb_5 ?_
      refine Wp.exitN (i := 0) (by kernel_rfl) ?_
      refine seqQ_exit ?_
      refine loopQ_exit ?_
      obtain rfl := Option.some.inj h
      exact Into.view (fun a w hv => SRx.renL [] hv (by kernel_rfl) (by kernel_rfl) (by kernel_rfl))
theorem spec_l2Term_s : ∀ p r, spec_l2Term p = some r → M_spec_l2Term p r := spec_l2Term_all.1
theorem spec_l2Term_l0_s : ∀ p r, spec_l2Term_l0 p = some r → M_spec_l2Term_l0 p r := spec_l2Term_all.2
def spec_IsWritten (t0 : GTerm) : Option (Bool) :=
    (
      (spec_l2Left (t0, 400)) >>= fun r_1_1 =>
      if (decide (r_1_1 ≥ 0)) = true then
        (spec_l2Term (t0, 8, 16, false)) >>= fun r_1_5 =>
        some (r_1_5)
      else
        some (false)
    ) >>= fun v_1 =>
    some v_1
def M_spec_IsWritten (t0 : GTerm) (r : Bool) : Prop :=
  FnSound Try.prog 58 [.agg [.int .i64 t0.fOp, .int .i64 t0.fN, .sl (List.map I t0.fType), .sl (List.map GTerm_S t0.fKids)]] (.bool r) []
theorem spec_IsWritten_s : ∀ p r, spec_IsWritten p = some r → M_spec_IsWritten p r := by
  rintro t0 r h
  unfold spec_IsWritten at h
  show FnSound Try.prog 58 [.agg [.int .i64 t0.fOp, .int .i64 t0.fN, .sl (List.map I t0.fType), .sl (List.map GTerm_S t0.fKids)]] (.bool r) []
  refine FnSound.body0 tiok (fn := Try.f58) (code := B58) (by kernel_rfl) (by kernel_rfl) (by kernel_rfl) (by kernel_rfl) (nt := 10) (by kernel_rfl) (by kernel_rfl) (T := [(0, .agg [.int .i64 t0.fOp, .int .i64 t0.fN, .sl (List.map I t0.fType), .sl (List.map GTerm_S t0.fKids)])]) (O := []) (by kernel_rfl) (by kernel_rfl) (fun c hc => ?_)
  refine Wp.seqN (by kernel_rfl) ?_
  refine Wp.reg tiok mix hc (by kernel_rfl) (ah := none) (rs := [some (.new 1), some (.no)]) (kt := [1]) (ko := [1]) (T' := [(1, .ra 1 0)]) (O' := [(1, .box [.int .i64 t0.fOp, .int .i64 t0.fN, .sl (List.map I t0.fType), .sl (List.map GTerm_S t0.fKids)])]) (by kernel_rfl) trivial (by kernel_rfl) (by kernel_rfl) ?_
  refine seqQ_norm ?_
  refine Wp.seqN (by kernel_rfl) ?_
  obtain ⟨v_1, hj_2, h⟩ := bsome h
  refine Wp.into (x := .normal) (mkS [(2, .bool v_1)] []) ?_ ?_
  · replace h := hj_2
    obtain ⟨r_1_1, hr_1_1, h⟩ := bsome h
    rcases itesome h with ⟨hb_1_0, h⟩ | ⟨hb_1_0, h⟩
    · obtain ⟨r_1_5, hr_1_5, h⟩ := bsome h
      refine Wp.reg tiok mix hc (by kernel_rfl) (ah := none) (rs := [some (.no), some (.call (.int .i64 r_1_1) [] 1), some (.no), some (.no), some (.no), some (.call (.bool r_1_5) [] 1), some (.cond true), some (.no)]) (kt := [2]) (ko := []) (T' := [(2, .bool r_1_5)]) (O' := []) (by kernel_rfl) (And.intro (spec_l2Left_s _ _ hr_1_1) (And.intro bod_79 (And.intro (Or.inl rfl : ([] : List Nat) = [] ∨ noSh (.int .i64 r_1_1) = true) (And.intro hb_1_0 (And.intro hb_1_0 (And.intro (spec_l2Term_s _ _ hr_1_5) (And.intro bod_97 (And.intro (Or.inl rfl : ([] : List Nat) = [] ∨ noSh (.bool r_1_5) = true) (And.intro hb_1_0 trivial))))))))) (by kernel_rfl) (by kernel_rfl) ?_
      obtain rfl := Option.some.inj h
      exact Into.mk
    · refine Wp.reg tiok mix hc (by kernel_rfl) (ah := none) (rs := [some (.no), some (.call (.int .i64 r_1_1) [] 1), some (.no), some (.no), none, none, some (.cond false), some (.no)]) (kt := [2]) (ko := []) (T' := [(2, .bool false)]) (O' := []) (by kernel_rfl) (And.intro (spec_l2Left_s _ _ hr_1_1) (And.intro bod_79 (And.intro (Or.inl rfl : ([] : List Nat) = [] ∨ noSh (.int .i64 r_1_1) = true) (And.intro (neT hb_1_0 : (decide (r_1_1 ≥ 0)) ≠ true) (And.intro (neT hb_1_0 : (decide (r_1_1 ≥ 0)) ≠ true) (And.intro hb_1_0 trivial)))))) (by kernel_rfl) (by kernel_rfl) ?_
      obtain rfl := Option.some.inj h
      exact Into.mk
  · clear hj_2
    refine seqQ_norm ?_
    refine Wp.retN (by kernel_rfl) ?_
    obtain rfl := Option.some.inj h
    exact RetQ.ret (fl := [true]) (by kernel_rfl)
def spec_l2Code (p : Bool × Int) : Option (Int) :=
  match p with
  | (arrow0, g1) =>
    (
      if arrow0 = true then
        some ((decide (g1 < 0)))
      else
        some (false)
    ) >>= fun v_1 =>
    if v_1 = true then
      some 35
    else
      if arrow0 = true then
        some (wr (3 + g1))
      else
        if (decide (g1 < 0)) = true then
          some 36
        else
          some (wr (19 + g1))
def M_spec_l2Code (p : Bool × Int) (r : Int) : Prop :=
  match p with
  | (arrow0, g1) => FnSound Try.prog 115 [.bool arrow0, .int .i64 g1] (.int .i64 r) []
theorem spec_l2Code_s : ∀ p r, spec_l2Code p = some r → M_spec_l2Code p r := by
  rintro ⟨arrow0, g1⟩ r h
  unfold spec_l2Code at h
  show FnSound Try.prog 115 [.bool arrow0, .int .i64 g1] (.int .i64 r) []
  refine FnSound.body0 tiok (fn := Try.f115) (code := B115) (by kernel_rfl) (by kernel_rfl) (by kernel_rfl) (by kernel_rfl) (nt := 20) (by kernel_rfl) (by kernel_rfl) (T := [(0, .bool arrow0), (1, .int .i64 g1)]) (O := []) (by kernel_rfl) (by kernel_rfl) (fun c hc => ?_)
  refine Wp.seqN (by kernel_rfl) ?_
  refine Wp.reg tiok mix hc (by kernel_rfl) (ah := none) (rs := [some (.no)]) (kt := [0, 1]) (ko := []) (T' := [(0, .bool arrow0), (1, .int .i64 g1)]) (O' := []) (by kernel_rfl) trivial (by kernel_rfl) (by kernel_rfl) ?_
  refine seqQ_norm ?_
  refine Wp.seqN (by kernel_rfl) ?_
  refine Wp.blockN (i := 0) (by kernel_rfl) ?_
  refine Wp.seqN (by kernel_rfl) ?_
  obtain ⟨v_1, hj_2, h⟩ := bsome h
  refine Wp.into (x := .normal) (mkS [(0, .bool arrow0), (1, .int .i64 g1), (5, .bool v_1)] []) ?_ ?_
  · replace h := hj_2
    rcases itesome h with ⟨hb_1_0, h⟩ | ⟨hb_1_0, h⟩
    · refine Wp.reg tiok mix hc (by kernel_rfl) (ah := none) (rs := [some (.no), some (.no), some (.no), some (.no), some (.cond true), some (.no)]) (kt := [0, 1, 5]) (ko := []) (T' := [(0, .bool arrow0), (1, .int .i64 g1), (5, .bool (decide (g1 < 0)))]) (O' := []) (by kernel_rfl) (And.intro hb_1_0 (And.intro hb_1_0 (And.intro hb_1_0 trivial))) (by kernel_rfl) (by kernel_rfl) ?_
      obtain rfl := Option.some.inj h
      exact Into.mk
    · refine Wp.reg tiok mix hc (by kernel_rfl) (ah := none) (rs := [some (.no), some (.no), none, none, some (.cond false), some (.no)]) (kt := [0, 1, 5]) (ko := []) (T' := [(0, .bool arrow0), (1, .int .i64 g1), (5, .bool false)]) (O' := []) (by kernel_rfl) (And.intro (neT hb_1_0 : arrow0 ≠ true) (And.intro (neT hb_1_0 : arrow0 ≠ true) (And.intro hb_1_0 trivial))) (by kernel_rfl) (by kernel_rfl) ?_
      obtain rfl := Option.some.inj h
      exact Into.mk
  · clear hj_2
    refine seqQ_norm ?_
    rcases itesome h with ⟨hb_3, h⟩ | ⟨hb_3, h⟩
    · refine Wp.condT (b := v_1) (by kernel_rfl) (by kernel_rfl) hb_3 ?_
      refine Wp.seqN (by kernel_rfl) ?_
      refine Wp.reg tiok mix hc (by kernel_rfl) (ah := none) (rs := [some (.no)]) (kt := [4]) (ko := []) (T' := [(4, .int .i64 35)]) (O' := []) (by kernel_rfl) trivial (by kernel_rfl) (by kernel_rfl) ?_
      refine seqQ_norm ?_
      refine Wp.retN (by kernel_rfl) ?_
      refine blockQ_ret ?_
      refine seqQ_ret ?_
      obtain rfl := Option.some.inj h
      exact RetQ.ret (fl := [true]) (by kernel_rfl)
    · refine Wp.condF (b := v_1) (by kernel_rfl) (by kernel_rfl) hb_3 ?_
      refine Wp.seqN (by kernel_rfl) ?_
      refine Wp.reg tiok mix hc (by kernel_rfl) (ah := none) (rs := [some (.no), some (.no)]) (kt := [1, 11]) (ko := []) (T' := [(1, .int .i64 g1), (11, .bool arrow0)]) (O' := []) (by kernel_rfl) trivial (by kernel_rfl) (by kernel_rfl) ?_
      refine seqQ_norm ?_
      rcases itesome h with ⟨hb_4, h⟩ | ⟨hb_4, h⟩
      · refine Wp.condT (b := arrow0) (by kernel_rfl) (by kernel_rfl) hb_4 ?_
        refine Wp.seqN (by kernel_rfl) ?_
        refine Wp.reg tiok mix hc (by kernel_rfl) (ah := none) (rs := [some (.no), some (.no), some (.no)]) (kt := [4]) (ko := []) (T' := [(4, .int .i64 (wr (3 + g1)))]) (O' := []) (by kernel_rfl) trivial (by kernel_rfl) (by kernel_rfl) ?_
        refine seqQ_norm ?_
        refine Wp.retN (by kernel_rfl) ?_
        refine blockQ_ret ?_
        refine seqQ_ret ?_
        obtain rfl := Option.some.inj h
        exact RetQ.ret (fl := [true]) (by kernel_rfl)
      · refine Wp.condF (b := arrow0) (by kernel_rfl) (by kernel_rfl) hb_4 ?_
        refine Wp.seqN (by kernel_rfl) ?_
        refine Wp.reg tiok mix hc (by kernel_rfl) (ah := none) (rs := [some (.no), some (.no), some (.no)]) (kt := [1, 15]) (ko := []) (T' := [(1, .int .i64 g1), (15, .bool (decide (g1 < 0)))]) (O' := []) (by kernel_rfl) trivial (by kernel_rfl) (by kernel_rfl) ?_
        refine seqQ_norm ?_
        rcases itesome h with ⟨hb_5, h⟩ | ⟨hb_5, h⟩
        · refine Wp.condT (b := (decide (g1 < 0))) (by kernel_rfl) (by kernel_rfl) hb_5 ?_
          refine Wp.seqN (by kernel_rfl) ?_
          refine Wp.reg tiok mix hc (by kernel_rfl) (ah := none) (rs := [some (.no)]) (kt := [4]) (ko := []) (T' := [(4, .int .i64 36)]) (O' := []) (by kernel_rfl) trivial (by kernel_rfl) (by kernel_rfl) ?_
          refine seqQ_norm ?_
          refine Wp.retN (by kernel_rfl) ?_
          refine blockQ_ret ?_
          refine seqQ_ret ?_
          obtain rfl := Option.some.inj h
          exact RetQ.ret (fl := [true]) (by kernel_rfl)
        · refine Wp.condF (b := (decide (g1 < 0))) (by kernel_rfl) (by kernel_rfl) hb_5 ?_
          refine Wp.skipN (by kernel_rfl) ?_
          refine blockQ_norm ?_
          refine seqQ_norm ?_
          refine Wp.seqN (by kernel_rfl) ?_
          refine Wp.reg tiok mix hc (by kernel_rfl) (ah := none) (rs := [some (.no), some (.no), some (.no)]) (kt := [4]) (ko := []) (T' := [(4, .int .i64 (wr (19 + g1)))]) (O' := []) (by kernel_rfl) trivial (by kernel_rfl) (by kernel_rfl) ?_
          refine seqQ_norm ?_
          refine Wp.retN (by kernel_rfl) ?_
          obtain rfl := Option.some.inj h
          exact RetQ.ret (fl := [true]) (by kernel_rfl)
def spec_l9Open_F1 (c : Ctx) (t0 : GTerm) (out_5 : Int) : (List Int) → Exit → AState → Prop
  | out_27 => Into c (.exit 0) (mkS [(1, .ra 1 0), (2, .ra 2 0), (3, .ra 3 0)] [(1, .box [.int .i64 t0.fOp, .int .i64 t0.fN, .sl (List.map I t0.fType), .sl (List.map GTerm_S t0.fKids)]), (2, .box [.int .i64 0, .int .i64 0, .nils, .nils]), (3, .box [.int .i64 t0.fOp, .int .i64 out_5, .rs 6, .nils]), (6, .arr (List.map I out_27))])
def spec_l9Open_F2 (c : Ctx) (t0 : GTerm) (out_5 : Int) (out_27 : List Int) : (List GTerm) → Exit → AState → Prop
  | out_34 => Into c (.exit 2) (mkS [(2, .ra 2 0), (3, .ra 3 0)] [(2, .box [.int .i64 0, .int .i64 0, .nils, .nils]), (3, .box [.int .i64 t0.fOp, .int .i64 out_5, .rs 6, .rs 16]), (6, .arr (List.map I out_27)), (16, .arr (List.map GTerm_O out_34))])
def spec_l9Open_l0 (p : GTerm × Int × (List Int) × Int) : Option ((List Int)) :=
  match p with
  | (t0, out_5, out_20, i_13) =>
    if (decide (i_13 < (t0.fType.length : Int))) = true then
      (idx t0.fType i_13) >>= fun e_9_3 =>
      (
        (spec_l2Kids e_9_3) >>= fun r_10_1 =>
        if (decide (r_10_1 > 0)) = true then
          some ((decide (e_9_3 > 2)))
        else
          some (false)
      ) >>= fun v_22 =>
      (
        if v_22 = true then
          (spec_l2Arrow e_9_3) >>= fun r_11_1 =>
          (spec_l2Code (r_11_1, (-1))) >>= fun r_11_2 =>
          some (r_11_2)
        else
          some (e_9_3)
      ) >>= fun c_25 =>
      (fits (out_20.length + [c_25].length) 8) >>= fun _ =>
      spec_l9Open_l0 (t0, out_5, (out_20 ++ [c_25]), (wr (i_13 + 1)))
    else
      some (out_20)
  partial_fixpoint
def M_spec_l9Open_l0 (p : GTerm × Int × (List Int) × Int) (fl : (List Int)) : Prop :=
  match p with
  | (t0, out_5, out_20, i_13) => ∀ c : Ctx, c.nt = 67 → WpL Try.prog c (cl (cl (cr (cl (cr (cr (cr (cr B77)))))))) (spec_l9Open_F1 c t0 out_5 fl) (mkS [(1, .ra 1 0), (2, .ra 2 0), (3, .ra 3 0), (4, .int .i64 i_13)] [(1, .box [.int .i64 t0.fOp, .int .i64 t0.fN, .sl (List.map I t0.fType), .sl (List.map GTerm_S t0.fKids)]), (2, .box [.int .i64 0, .int .i64 0, .nils, .nils]), (3, .box [.int .i64 t0.fOp, .int .i64 out_5, .rs 6, .nils]), (6, .arr (List.map I out_20))])
theorem spec_l9Open_l0_s : ∀ p r, spec_l9Open_l0 p = some r → M_spec_l9Open_l0 p r := by
  refine spec_l9Open_l0.partial_correctness M_spec_l9Open_l0 ?_
  rintro spec_l9Open_l0_f spec_l9Open_l0_ih ⟨t0, out_5, out_20, i_13⟩ r h
  intro c hc
  show WpL Try.prog c (cl (cl (cr (cl (cr (cr (cr (cr B77)))))))) (spec_l9Open_F1 c t0 out_5 r) (mkS [(1, .ra 1 0), (2, .ra 2 0), (3, .ra 3 0), (4, .int .i64 i_13)] [(1, .box [.int .i64 t0.fOp, .int .i64 t0.fN, .sl (List.map I t0.fType), .sl (List.map GTerm_S t0.fKids)]), (2, .box [.int .i64 0, .int .i64 0, .nils, .nils]), (3, .box [.int .i64 t0.fOp, .int .i64 out_5, .rs 6, .nils]), (6, .arr (List.map I out_20))])
  refine WpL.step ?_
  refine Wp.seqN (by kernel_rfl) ?_
  refine Wp.seqN (by kernel_rfl) ?_
  refine Wp.reg tiok mix hc (by kernel_rfl) (ah := none) (rs := [some (.no), some (.no), some (.no), some (.eqv (.no) ⟨[(23, .int .i64 (t0.fType.length : Int))], [], []⟩), some (.no)]) (kt := [1, 2, 3, 4, 24]) (ko := [1, 2, 3, 6]) (T' := [(1, .ra 1 0), (2, .ra 2 0), (3, .ra 3 0), (4, .int .i64 i_13), (24, .bool (decide (i_13 < (t0.fType.length : Int))))]) (O' := [(1, .box [.int .i64 t0.fOp, .int .i64 t0.fN, .sl (List.map I t0.fType), .sl (List.map GTerm_S t0.fKids)]), (2, .box [.int .i64 0, .int .i64 0, .nils, .nils]), (3, .box [.int .i64 t0.fOp, .int .i64 out_5, .rs 6, .nils]), (6, .arr (List.map I out_20))]) (by kernel_rfl) (And.intro (lenT (d := 23) I t0.fType) trivial) (by kernel_rfl) (by kernel_rfl) ?_
  refine seqQ_norm ?_
  rcases itesome h with ⟨hb_21, h⟩ | ⟨hb_21, h⟩
  · refine Wp.condT (b := (decide (i_13 < (t0.fType.length : Int)))) (by kernel_rfl) (by kernel_rfl) hb_21 ?_
    refine Wp.skipN (by kernel_rfl) ?_
    refine seqQ_norm ?_
    refine Wp.seqN (by kernel_rfl) ?_
    refine Wp.blockN (i := 1) (by kernel_rfl) ?_
    refine Wp.seqN (by kernel_rfl) ?_
    obtain ⟨e_9_3, hi_9_3, h⟩ := bsome h
    refine Wp.reg tiok mix hc (by kernel_rfl) (ah := none) (rs := [some (.no), some (.no), some (.no), some (.el (.int .i64 e_9_3)), some (.no), some (.no)]) (kt := [1, 2, 3, 4, 5]) (ko := [1, 2, 3, 6]) (T' := [(1, .ra 1 0), (2, .ra 2 0), (3, .ra 3 0), (4, .int .i64 i_13), (5, .int .i64 e_9_3)]) (O' := [(1, .box [.int .i64 t0.fOp, .int .i64 t0.fN, .sl (List.map I t0.fType), .sl (List.map GTerm_S t0.fKids)]), (2, .box [.int .i64 0, .int .i64 0, .nils, .nils]), (3, .box [.int .i64 t0.fOp, .int .i64 out_5, .rs 6, .nils]), (6, .arr (List.map I out_20))]) (by kernel_rfl) (And.intro (idx_sl (enc := I) (x := .int .i64 e_9_3) hi_9_3 (eq_I e_9_3)) trivial) (by kernel_rfl) (by kernel_rfl) ?_
    refine seqQ_norm ?_
    refine Wp.seqN (by kernel_rfl) ?_
    refine Wp.seqN (by kernel_rfl) ?_
    obtain ⟨v_22, hj_23, h⟩ := bsome h
    refine Wp.into (x := .normal) (mkS [(1, .ra 1 0), (2, .ra 2 0), (3, .ra 3 0), (4, .int .i64 i_13), (5, .int .i64 e_9_3), (38, .bool v_22)] [(1, .box [.int .i64 t0.fOp, .int .i64 t0.fN, .sl (List.map I t0.fType), .sl (List.map GTerm_S t0.fKids)]), (2, .box [.int .i64 0, .int .i64 0, .nils, .nils]), (3, .box [.int .i64 t0.fOp, .int .i64 out_5, .rs 6, .nils]), (6, .arr (List.map I out_20))]) ?_ ?_
    · replace h := hj_23
      obtain ⟨r_10_1, hr_10_1, h⟩ := bsome h
      rcases itesome h with ⟨hb_10_0, h⟩ | ⟨hb_10_0, h⟩
      · refine Wp.reg tiok mix hc (by kernel_rfl) (ah := none) (rs := [some (.no), some (.call (.int .i64 r_10_1) [] 1), some (.no), some (.no), some (.no), some (.no), some (.cond true)]) (kt := [1, 2, 3, 4, 5, 38]) (ko := [1, 2, 3, 6]) (T' := [(1, .ra 1 0), (2, .ra 2 0), (3, .ra 3 0), (4, .int .i64 i_13), (5, .int .i64 e_9_3), (38, .bool (decide (e_9_3 > 2)))]) (O' := [(1, .box [.int .i64 t0.fOp, .int .i64 t0.fN, .sl (List.map I t0.fType), .sl (List.map GTerm_S t0.fKids)]), (2, .box [.int .i64 0, .int .i64 0, .nils, .nils]), (3, .box [.int .i64 t0.fOp, .int .i64 out_5, .rs 6, .nils]), (6, .arr (List.map I out_20))]) (by kernel_rfl) (And.intro (spec_l2Kids_s _ _ hr_10_1) (And.intro bod_114 (And.intro (Or.inl rfl : ([] : List Nat) = [] ∨ noSh (.int .i64 r_10_1) = true) (And.intro hb_10_0 (And.intro hb_10_0 (And.intro hb_10_0 trivial)))))) (by kernel_rfl) (by kernel_rfl) ?_
        obtain rfl := Option.some.inj h
        exact Into.mk
      · refine Wp.reg tiok mix hc (by kernel_rfl) (ah := none) (rs := [some (.no), some (.call (.int .i64 r_10_1) [] 1), some (.no), some (.no), none, none, some (.cond false)]) (kt := [1, 2, 3, 4, 5, 38]) (ko := [1, 2, 3, 6]) (T' := [(1, .ra 1 0), (2, .ra 2 0), (3, .ra 3 0), (4, .int .i64 i_13), (5, .int .i64 e_9_3), (38, .bool false)]) (O' := [(1, .box [.int .i64 t0.fOp, .int .i64 t0.fN, .sl (List.map I t0.fType), .sl (List.map GTerm_S t0.fKids)]), (2, .box [.int .i64 0, .int .i64 0, .nils, .nils]), (3, .box [.int .i64 t0.fOp, .int .i64 out_5, .rs 6, .nils]), (6, .arr (List.map I out_20))]) (by kernel_rfl) (And.intro (spec_l2Kids_s _ _ hr_10_1) (And.intro bod_114 (And.intro (Or.inl rfl : ([] : List Nat) = [] ∨ noSh (.int .i64 r_10_1) = true) (And.intro (neT hb_10_0 : (decide (r_10_1 > 0)) ≠ true) (And.intro (neT hb_10_0 : (decide (r_10_1 > 0)) ≠ true) (And.intro hb_10_0 trivial)))))) (by kernel_rfl) (by kernel_rfl) ?_
        obtain rfl := Option.some.inj h
        exact Into.mk
    · clear hj_23
      refine seqQ_norm ?_
      obtain ⟨c_25, hj_26, h⟩ := bsome h
      refine Wp.into (x := .normal) (mkS [(1, .ra 1 0), (2, .ra 2 0), (3, .ra 3 0), (4, .int .i64 i_13), (5, .int .i64 c_25)] [(1, .box [.int .i64 t0.fOp, .int .i64 t0.fN, .sl (List.map I t0.fType), .sl (List.map GTerm_S t0.fKids)]), (2, .box [.int .i64 0, .int .i64 0, .nils, .nils]), (3, .box [.int .i64 t0.fOp, .int .i64 out_5, .rs 6, .nils]), (6, .arr (List.map I out_20))]) ?_ ?_
      · replace h := hj_26
        rcases itesome h with ⟨hb_24, h⟩ | ⟨hb_24, h⟩
        · refine Wp.condT (b := v_22) (by kernel_rfl) (by kernel_rfl) hb_24 ?_
          obtain ⟨r_11_1, hr_11_1, h⟩ := bsome h
          obtain ⟨r_11_2, hr_11_2, h⟩ := bsome h
          refine Wp.reg tiok mix hc (by kernel_rfl) (ah := none) (rs := [some (.no), some (.call (.bool r_11_1) [] 1), some (.call (.int .i64 r_11_2) [] 1), some (.no)]) (kt := [1, 2, 3, 4, 5]) (ko := [1, 2, 3, 6]) (T' := [(1, .ra 1 0), (2, .ra 2 0), (3, .ra 3 0), (4, .int .i64 i_13), (5, .int .i64 r_11_2)]) (O' := [(1, .box [.int .i64 t0.fOp, .int .i64 t0.fN, .sl (List.map I t0.fType), .sl (List.map GTerm_S t0.fKids)]), (2, .box [.int .i64 0, .int .i64 0, .nils, .nils]), (3, .box [.int .i64 t0.fOp, .int .i64 out_5, .rs 6, .nils]), (6, .arr (List.map I out_20))]) (by kernel_rfl) (And.intro (spec_l2Arrow_s _ _ hr_11_1) (And.intro bod_116 (And.intro (Or.inl rfl : ([] : List Nat) = [] ∨ noSh (.bool r_11_1) = true) (And.intro (spec_l2Code_s _ _ hr_11_2) (And.intro bod_115 (And.intro (Or.inl rfl : ([] : List Nat) = [] ∨ noSh (.int .i64 r_11_2) = true) trivial)))))) (by kernel_rfl) (by kernel_rfl) ?_
          obtain rfl := Option.some.inj h
          exact Into.mk
        · refine Wp.condF (b := v_22) (by kernel_rfl) (by kernel_rfl) hb_24 ?_
          refine Wp.skipN (by kernel_rfl) ?_
          obtain rfl := Option.some.inj h
          exact Into.view (fun a w hv => SRx.renL [] hv (by kernel_rfl) (by kernel_rfl) (by kernel_rfl))
      · clear hj_26
        refine seqQ_norm ?_
        obtain ⟨_, hk_12_4, h⟩ := bsome h
        refine Wp.reg tiok mix hc (by kernel_rfl) (ah := none) (rs := [some (.no), some (.no), some (.no), some (.mk 9 true), some (.eqv (.mk 10 true) ⟨[(46, .rs 10)], [(10, some (.arr (List.map I (out_20 ++ [c_25])))), (6, none), (9, none)], [10]⟩), some (.no), some (.no)]) (kt := [1, 2, 3, 4]) (ko := [1, 2, 3, 10]) (T' := [(1, .ra 1 0), (2, .ra 2 0), (3, .ra 3 0), (4, .int .i64 i_13)]) (O' := [(1, .box [.int .i64 t0.fOp, .int .i64 t0.fN, .sl (List.map I t0.fType), .sl (List.map GTerm_S t0.fKids)]), (2, .box [.int .i64 0, .int .i64 0, .nils, .nils]), (3, .box [.int .i64 t0.fOp, .int .i64 out_5, .rs 10, .nils]), (10, .arr (List.map I (out_20 ++ [c_25])))]) (by kernel_rfl) (And.intro (congrArg (fun z => (⟨[(46, .rs 10)], [(10, some (.arr z)), (6, none), (9, none)], [10]⟩ : Wr)) ((List.map_append).symm : (List.map I out_20) ++ (List.map I [c_25]) = List.map I (out_20 ++ [c_25]))) (And.intro (app_ob (enc1 := I) (enc2 := I) (e1 := out_20) (e2 := [c_25]) (sz := 1) ek_I ek_I hk_12_4) trivial)) (by kernel_rfl) (by kernel_rfl) ?_
        refine blockQ_norm ?_
        refine seqQ_norm ?_
        refine Wp.reg tiok mix hc (by kernel_rfl) (ah := none) (rs := [some (.no), some (.no), some (.no)]) (kt := [1, 2, 3, 4]) (ko := [1, 2, 3, 10]) (T' := [(1, .ra 1 0), (2, .ra 2 0), (3, .ra 3 0), (4, .int .i64 (wr (i_13 + 1)))]) (O' := [(1, .box [.int .i64 t0.fOp, .int .i64 t0.fN, .sl (List.map I t0.fType), .sl (List.map GTerm_S t0.fKids)]), (2, .box [.int .i64 0, .int .i64 0, .nils, .nils]), (3, .box [.int .i64 t0.fOp, .int .i64 out_5, .rs 10, .nils]), (10, .arr (List.map I (out_20 ++ [c_25])))]) (by kernel_rfl) trivial (by kernel_rfl) (by kernel_rfl) ?_
        refine loopQ_norm ?_
        exact WpL.view (fun a w hv => SRx.renL [(6, 10)] hv (by kernel_rfl) (by kernel_rfl) (by kernel_rfl)) (spec_l9Open_l0_ih _ _ h c hc)
  · refine Wp.condF (b := (decide (i_13 < (t0.fType.length : Int)))) (by kernel_rfl) (by kernel_rfl) hb_21 ?_
    refine Wp.exitN (i := 0) (by kernel_rfl) ?_
    refine seqQ_exit ?_
    refine loopQ_exit ?_
    obtain rfl := Option.some.inj h
    exact Into.view (fun a w hv => SRx.renL [] hv (by kernel_rfl) (by kernel_rfl) (by kernel_rfl))
mutual
def spec_l9Open (t0 : GTerm) : Option (GTerm) :=
    (spec_l2Has t0.fOp) >>= fun r_2_2 =>
    (
      if r_2_2 = true then
        some ((-1))
      else
        some (t0.fN)
    ) >>= fun out_2 =>
    (
      if (t0.fOp == 12) = true then
        some (1)
      else
        some (out_2)
    ) >>= fun out_5 =>
    (spec_l9Open_l0 (t0, out_5, [], 0)) >>= fun out_27 =>
    (spec_l9Open_l1 (t0, out_5, out_27, [], 0)) >>= fun out_34 =>
    some (GTerm.mk t0.fOp out_5 out_27 out_34)
  partial_fixpoint
def spec_l9Open_l1 (p : GTerm × Int × (List Int) × (List GTerm) × Int) : Option ((List GTerm)) :=
  match p with
  | (t0, out_5, out_27, out_32, k_30) =>
    if (decide (k_30 < (t0.fKids.length : Int))) = true then
      (idx t0.fKids k_30) >>= fun e_16_5 =>
      (spec_l9Open e_16_5) >>= fun r_16_7 =>
      (fits (out_32.length + [r_16_7].length) 64) >>= fun _ =>
      spec_l9Open_l1 (t0, out_5, out_27, (out_32 ++ [r_16_7]), (wr (k_30 + 1)))
    else
      some (out_32)
  partial_fixpoint
end
def M_spec_l9Open (t0 : GTerm) (r : GTerm) : Prop :=
  FnSound Try.prog 77 [.agg [.int .i64 t0.fOp, .int .i64 t0.fN, .sl (List.map I t0.fType), .sl (List.map GTerm_S t0.fKids)]] (.agg [.int .i64 r.fOp, .int .i64 r.fN, .osl (List.map I r.fType), .osl (List.map GTerm_O r.fKids)]) []
def M_spec_l9Open_l1 (p : GTerm × Int × (List Int) × (List GTerm) × Int) (fl : (List GTerm)) : Prop :=
  match p with
  | (t0, out_5, out_27, out_32, k_30) => ∀ c : Ctx, c.nt = 67 → WpL Try.prog c (cl (cl (cr (cl (cr (cr (cr (cr (cr B77))))))))) (spec_l9Open_F2 c t0 out_5 out_27 fl) (mkS [(1, .ra 1 0), (2, .ra 2 0), (3, .ra 3 0), (6, .int .i64 k_30)] [(1, .box [.int .i64 t0.fOp, .int .i64 t0.fN, .sl (List.map I t0.fType), .sl (List.map GTerm_S t0.fKids)]), (2, .box [.int .i64 0, .int .i64 0, .nils, .nils]), (3, .box [.int .i64 t0.fOp, .int .i64 out_5, .rs 6, .rs 16]), (6, .arr (List.map I out_27)), (16, .arr (List.map GTerm_O out_32))])
theorem spec_l9Open_all : (∀ p r, spec_l9Open p = some r → M_spec_l9Open p r) ∧ (∀ p r, spec_l9Open_l1 p = some r → M_spec_l9Open_l1 p r) := by
  refine spec_l9Open.mutual_partial_correctness M_spec_l9Open M_spec_l9Open_l1 ?_ ?_
  · rintro spec_l9Open_l1_f spec_l9Open_l1_ih t0 r h
    show FnSound Try.prog 77 [.agg [.int .i64 t0.fOp, .int .i64 t0.fN, .sl (List.map I t0.fType), .sl (List.map GTerm_S t0.fKids)]] (.agg [.int .i64 r.fOp, .int .i64 r.fN, .osl (List.map I r.fType), .osl (List.map GTerm_O r.fKids)]) []
    refine FnSound.body0 tiok (fn := Try.f77) (code := B77) (by kernel_rfl) (by kernel_rfl) (by kernel_rfl) (by kernel_rfl) (nt := 67) (by kernel_rfl) (by kernel_rfl) (T := [(0, .agg [.int .i64 t0.fOp, .int .i64 t0.fN, .sl (List.map I t0.fType), .sl (List.map GTerm_S t0.fKids)])]) (O := []) (by kernel_rfl) (by kernel_rfl) (fun c hc => ?_)
    refine Wp.seqN (by kernel_rfl) ?_
    refine Wp.reg tiok mix hc (by kernel_rfl) (ah := none) (rs := [some (.new 1), some (.new 2)]) (kt := [1, 2]) (ko := [1, 2]) (T' := [(1, .ra 1 0), (2, .ra 2 0)]) (O' := [(1, .box [.int .i64 t0.fOp, .int .i64 t0.fN, .sl (List.map I t0.fType), .sl (List.map GTerm_S t0.fKids)]), (2, .box [.int .i64 0, .int .i64 0, .nils, .nils])]) (by kernel_rfl) trivial (by kernel_rfl) (by kernel_rfl) ?_
    refine seqQ_norm ?_
    refine Wp.seqN (by kernel_rfl) ?_
    refine Wp.reg tiok mix hc (by kernel_rfl) (ah := none) (rs := [some (.no), some (.no), some (.no), some (.no), some (.no), some (.new 3), some (.no)]) (kt := [1, 2, 3]) (ko := [1, 2, 3]) (T' := [(1, .ra 1 0), (2, .ra 2 0), (3, .ra 3 0)]) (O' := [(1, .box [.int .i64 t0.fOp, .int .i64 t0.fN, .sl (List.map I t0.fType), .sl (List.map GTerm_S t0.fKids)]), (2, .box [.int .i64 0, .int .i64 0, .nils, .nils]), (3, .box [.int .i64 t0.fOp, .int .i64 t0.fN, .nils, .nils])]) (by kernel_rfl) trivial (by kernel_rfl) (by kernel_rfl) ?_
    refine seqQ_norm ?_
    refine Wp.seqN (by kernel_rfl) ?_
    refine Wp.seqN (by kernel_rfl) ?_
    obtain ⟨r_2_2, hr_2_2, h⟩ := bsome h
    refine Wp.reg tiok mix hc (by kernel_rfl) (ah := none) (rs := [some (.no), some (.no), some (.call (.bool r_2_2) [] 1)]) (kt := [1, 2, 3, 14]) (ko := [1, 2, 3]) (T' := [(1, .ra 1 0), (2, .ra 2 0), (3, .ra 3 0), (14, .bool r_2_2)]) (O' := [(1, .box [.int .i64 t0.fOp, .int .i64 t0.fN, .sl (List.map I t0.fType), .sl (List.map GTerm_S t0.fKids)]), (2, .box [.int .i64 0, .int .i64 0, .nils, .nils]), (3, .box [.int .i64 t0.fOp, .int .i64 t0.fN, .nils, .nils])]) (by kernel_rfl) (And.intro (spec_l2Has_s _ _ hr_2_2) (And.intro bod_98 (And.intro (Or.inl rfl : ([] : List Nat) = [] ∨ noSh (.bool r_2_2) = true) trivial))) (by kernel_rfl) (by kernel_rfl) ?_
    refine seqQ_norm ?_
    obtain ⟨out_2, hj_3, h⟩ := bsome h
    refine Wp.into (x := .normal) (mkS [(1, .ra 1 0), (2, .ra 2 0), (3, .ra 3 0)] [(1, .box [.int .i64 t0.fOp, .int .i64 t0.fN, .sl (List.map I t0.fType), .sl (List.map GTerm_S t0.fKids)]), (2, .box [.int .i64 0, .int .i64 0, .nils, .nils]), (3, .box [.int .i64 t0.fOp, .int .i64 out_2, .nils, .nils])]) ?_ ?_
    · replace h := hj_3
      rcases itesome h with ⟨hb_1, h⟩ | ⟨hb_1, h⟩
      · refine Wp.condT (b := r_2_2) (by kernel_rfl) (by kernel_rfl) hb_1 ?_
        refine Wp.reg tiok mix hc (by kernel_rfl) (ah := none) (rs := [some (.no), some (.no)]) (kt := [1, 2, 3]) (ko := [1, 2, 3]) (T' := [(1, .ra 1 0), (2, .ra 2 0), (3, .ra 3 0)]) (O' := [(1, .box [.int .i64 t0.fOp, .int .i64 t0.fN, .sl (List.map I t0.fType), .sl (List.map GTerm_S t0.fKids)]), (2, .box [.int .i64 0, .int .i64 0, .nils, .nils]), (3, .box [.int .i64 t0.fOp, .int .i64 (-1), .nils, .nils])]) (by kernel_rfl) trivial (by kernel_rfl) (by kernel_rfl) ?_
        obtain rfl := Option.some.inj h
        exact Into.mk
      · refine Wp.condF (b := r_2_2) (by kernel_rfl) (by kernel_rfl) hb_1 ?_
        refine Wp.skipN (by kernel_rfl) ?_
        obtain rfl := Option.some.inj h
        exact Into.view (fun a w hv => SRx.renL [] hv (by kernel_rfl) (by kernel_rfl) (by kernel_rfl))
    · clear hj_3
      refine seqQ_norm ?_
      refine Wp.seqN (by kernel_rfl) ?_
      refine Wp.seqN (by kernel_rfl) ?_
      refine Wp.reg tiok mix hc (by kernel_rfl) (ah := none) (rs := [some (.no), some (.no), some (.no)]) (kt := [1, 2, 3, 18]) (ko := [1, 2, 3]) (T' := [(1, .ra 1 0), (2, .ra 2 0), (3, .ra 3 0), (18, .bool (t0.fOp == 12))]) (O' := [(1, .box [.int .i64 t0.fOp, .int .i64 t0.fN, .sl (List.map I t0.fType), .sl (List.map GTerm_S t0.fKids)]), (2, .box [.int .i64 0, .int .i64 0, .nils, .nils]), (3, .box [.int .i64 t0.fOp, .int .i64 out_2, .nils, .nils])]) (by kernel_rfl) trivial (by kernel_rfl) (by kernel_rfl) ?_
      refine seqQ_norm ?_
      obtain ⟨out_5, hj_6, h⟩ := bsome h
      refine Wp.into (x := .normal) (mkS [(1, .ra 1 0), (2, .ra 2 0), (3, .ra 3 0)] [(1, .box [.int .i64 t0.fOp, .int .i64 t0.fN, .sl (List.map I t0.fType), .sl (List.map GTerm_S t0.fKids)]), (2, .box [.int .i64 0, .int .i64 0, .nils, .nils]), (3, .box [.int .i64 t0.fOp, .int .i64 out_5, .nils, .nils])]) ?_ ?_
      · replace h := hj_6
        rcases itesome h with ⟨hb_4, h⟩ | ⟨hb_4, h⟩
        · refine Wp.condT (b := (t0.fOp == 12)) (by kernel_rfl) (by kernel_rfl) hb_4 ?_
          refine Wp.reg tiok mix hc (by kernel_rfl) (ah := none) (rs := [some (.no), some (.no)]) (kt := [1, 2, 3]) (ko := [1, 2, 3]) (T' := [(1, .ra 1 0), (2, .ra 2 0), (3, .ra 3 0)]) (O' := [(1, .box [.int .i64 t0.fOp, .int .i64 t0.fN, .sl (List.map I t0.fType), .sl (List.map GTerm_S t0.fKids)]), (2, .box [.int .i64 0, .int .i64 0, .nils, .nils]), (3, .box [.int .i64 t0.fOp, .int .i64 1, .nils, .nils])]) (by kernel_rfl) trivial (by kernel_rfl) (by kernel_rfl) ?_
          obtain rfl := Option.some.inj h
          exact Into.mk
        · refine Wp.condF (b := (t0.fOp == 12)) (by kernel_rfl) (by kernel_rfl) hb_4 ?_
          refine Wp.skipN (by kernel_rfl) ?_
          obtain rfl := Option.some.inj h
          exact Into.view (fun a w hv => SRx.renL [] hv (by kernel_rfl) (by kernel_rfl) (by kernel_rfl))
      · clear hj_6
        refine seqQ_norm ?_
        refine Wp.seqN (by kernel_rfl) ?_
        refine Wp.seqN (by kernel_rfl) ?_
        refine Wp.reg tiok mix hc (by kernel_rfl) (ah := none) (rs := [some (.no)]) (kt := [1, 2, 3, 4]) (ko := [1, 2, 3]) (T' := [(1, .ra 1 0), (2, .ra 2 0), (3, .ra 3 0), (4, .int .i64 0)]) (O' := [(1, .box [.int .i64 t0.fOp, .int .i64 t0.fN, .sl (List.map I t0.fType), .sl (List.map GTerm_S t0.fKids)]), (2, .box [.int .i64 0, .int .i64 0, .nils, .nils]), (3, .box [.int .i64 t0.fOp, .int .i64 out_5, .nils, .nils])]) (by kernel_rfl) trivial (by kernel_rfl) (by kernel_rfl) ?_
        refine seqQ_norm ?_
        refine Wp.blockN (i := 0) (by kernel_rfl) ?_
        obtain ⟨out_27, hl_28, h⟩ := bsome h
        have hL := spec_l9Open_l0_s _ _ hl_28 c hc
        refine Wp.loopN (by kernel_rfl) (WpL.view (fun a w hv => SRx.renL [(6, 11)] (SRx.nilBL 3 2 11 [.int .i64 t0.fOp, .int .i64 out_5, .nils, .nils] hv (by kernel_rfl) (by kernel_rfl) (by kernel_rfl)) (by kernel_rfl) (by kernel_rfl) (by kernel_rfl)) (?_ : WpL _ c _ _ (mkS [(1, .ra 1 0), (2, .ra 2 0), (3, .ra 3 0), (4, .int .i64 0)] [(1, .box [.int .i64 t0.fOp, .int .i64 t0.fN, .sl (List.map I t0.fType), .sl (List.map GTerm_S t0.fKids)]), (2, .box [.int .i64 0, .int .i64 0, .nils, .nils]), (3, .box [.int .i64 t0.fOp, .int .i64 out_5, .rs 6, .nils]), (6, .arr (List.map I []))])))
        · refine WpL.into (e := (.exit 0)) (mkS [(1, .ra 1 0), (2, .ra 2 0), (3, .ra 3 0)] [(1, .box [.int .i64 t0.fOp, .int .i64 t0.fN, .sl (List.map I t0.fType), .sl (List.map GTerm_S t0.fKids)]), (2, .box [.int .i64 0, .int .i64 0, .nils, .nils]), (3, .box [.int .i64 t0.fOp, .int .i64 out_5, .rs 6, .nils]), (6, .arr (List.map I out_27))]) hL ?_
          refine blockQ_hit ?_
          refine seqQ_norm ?_
          refine Wp.seqN (by kernel_rfl) ?_
          refine Wp.seqN (by kernel_rfl) ?_
          refine Wp.reg tiok mix hc (by kernel_rfl) (ah := none) (rs := [some (.no)]) (kt := [1, 2, 3, 6]) (ko := [1, 2, 3, 6]) (T' := [(1, .ra 1 0), (2, .ra 2 0), (3, .ra 3 0), (6, .int .i64 0)]) (O' := [(1, .box [.int .i64 t0.fOp, .int .i64 t0.fN, .sl (List.map I t0.fType), .sl (List.map GTerm_S t0.fKids)]), (2, .box [.int .i64 0, .int .i64 0, .nils, .nils]), (3, .box [.int .i64 t0.fOp, .int .i64 out_5, .rs 6, .nils]), (6, .arr (List.map I out_27))]) (by kernel_rfl) trivial (by kernel_rfl) (by kernel_rfl) ?_
          refine seqQ_norm ?_
          refine Wp.blockN (i := 2) (by kernel_rfl) ?_
          obtain ⟨out_34, hl_35, h⟩ := bsome h
          have hL := spec_l9Open_l1_ih _ _ hl_35 c hc
          refine Wp.loopN (by kernel_rfl) (WpL.view (fun a w hv => SRx.renL [(16, 25)] (SRx.nilBL 3 3 25 [.int .i64 t0.fOp, .int .i64 out_5, .rs 6, .nils] hv (by kernel_rfl) (by kernel_rfl) (by kernel_rfl)) (by kernel_rfl) (by kernel_rfl) (by kernel_rfl)) (?_ : WpL _ c _ _ (mkS [(1, .ra 1 0), (2, .ra 2 0), (3, .ra 3 0), (6, .int .i64 0)] [(1, .box [.int .i64 t0.fOp, .int .i64 t0.fN, .sl (List.map I t0.fType), .sl (List.map GTerm_S t0.fKids)]), (2, .box [.int .i64 0, .int .i64 0, .nils, .nils]), (3, .box [.int .i64 t0.fOp, .int .i64 out_5, .rs 6, .rs 16]), (6, .arr (List.map I out_27)), (16, .arr (List.map GTerm_O []))])))
          · refine WpL.into (e := (.exit 2)) (mkS [(2, .ra 2 0), (3, .ra 3 0)] [(2, .box [.int .i64 0, .int .i64 0, .nils, .nils]), (3, .box [.int .i64 t0.fOp, .int .i64 out_5, .rs 6, .rs 16]), (6, .arr (List.map I out_27)), (16, .arr (List.map GTerm_O out_34))]) hL ?_
            refine blockQ_hit ?_
            refine seqQ_norm ?_
            refine Wp.seqN (by kernel_rfl) ?_
            refine Wp.reg tiok mix hc (by kernel_rfl) (ah := none) (rs := [some (.no), some (.no)]) (kt := [2]) (ko := [2, 6, 16]) (T' := [(2, .ra 2 0)]) (O' := [(2, .box [.int .i64 t0.fOp, .int .i64 out_5, .rs 6, .rs 16]), (6, .arr (List.map I out_27)), (16, .arr (List.map GTerm_O out_34))]) (by kernel_rfl) trivial (by kernel_rfl) (by kernel_rfl) ?_
            refine seqQ_norm ?_
            refine Wp.retN (by kernel_rfl) ?_
            obtain rfl := Option.some.inj h
            exact RetQ.ret (fl := [true]) (by kernel_rfl)
  · rintro spec_l9Open_f spec_l9Open_l1_f spec_l9Open_ih spec_l9Open_l1_ih ⟨t0, out_5, out_27, out_32, k_30⟩ r h
    intro c hc
    show WpL Try.prog c (cl (cl (cr (cl (cr (cr (cr (cr (cr B77))))))))) (spec_l9Open_F2 c t0 out_5 out_27 r) (mkS [(1, .ra 1 0), (2, .ra 2 0), (3, .ra 3 0), (6, .int .i64 k_30)] [(1, .box [.int .i64 t0.fOp, .int .i64 t0.fN, .sl (List.map I t0.fType), .sl (List.map GTerm_S t0.fKids)]), (2, .box [.int .i64 0, .int .i64 0, .nils, .nils]), (3, .box [.int .i64 t0.fOp, .int .i64 out_5, .rs 6, .rs 16]), (6, .arr (List.map I out_27)), (16, .arr (List.map GTerm_O out_32))])
    refine WpL.step ?_
    refine Wp.seqN (by kernel_rfl) ?_
    refine Wp.seqN (by kernel_rfl) ?_
    refine Wp.reg tiok mix hc (by kernel_rfl) (ah := none) (rs := [some (.no), some (.no), some (.no), some (.eqv (.no) ⟨[(51, .int .i64 (t0.fKids.length : Int))], [], []⟩), some (.no)]) (kt := [1, 2, 3, 6, 52]) (ko := [1, 2, 3, 6, 16]) (T' := [(1, .ra 1 0), (2, .ra 2 0), (3, .ra 3 0), (6, .int .i64 k_30), (52, .bool (decide (k_30 < (t0.fKids.length : Int))))]) (O' := [(1, .box [.int .i64 t0.fOp, .int .i64 t0.fN, .sl (List.map I t0.fType), .sl (List.map GTerm_S t0.fKids)]), (2, .box [.int .i64 0, .int .i64 0, .nils, .nils]), (3, .box [.int .i64 t0.fOp, .int .i64 out_5, .rs 6, .rs 16]), (6, .arr (List.map I out_27)), (16, .arr (List.map GTerm_O out_32))]) (by kernel_rfl) (And.intro (lenT (d := 51) GTerm_S t0.fKids) trivial) (by kernel_rfl) (by kernel_rfl) ?_
    refine seqQ_norm ?_
    rcases itesome h with ⟨hb_33, h⟩ | ⟨hb_33, h⟩
    · refine Wp.condT (b := (decide (k_30 < (t0.fKids.length : Int)))) (by kernel_rfl) (by kernel_rfl) hb_33 ?_
      refine Wp.skipN (by kernel_rfl) ?_
      refine seqQ_norm ?_
      refine Wp.seqN (by kernel_rfl) ?_
      refine Wp.blockN (i := 3) (by kernel_rfl) ?_
      obtain ⟨e_16_5, hi_16_5, h⟩ := bsome h
      obtain ⟨r_16_7, hr_16_7, h⟩ := bsome h
      obtain ⟨_, hk_16_9, h⟩ := bsome h
      refine Wp.reg tiok mix hc (by kernel_rfl) (ah := (some [[], [0], [], [2], [], [2, 3, 4], [2, 3, 4, 5], [2, 3, 4, 5, 6], [2, 3, 4, 5, 6, 7], [0, 1, 2, 3, 4, 5, 6, 7, 8], [0, 1, 2, 3, 4, 5, 6, 7, 8, 9], [0, 1, 2, 3, 4, 5, 6, 7, 8, 9, 10]])) (rs := [some (.no), some (.no), some (.no), some (.no), some (.no), some (.el (.agg [.int .i64 e_16_5.fOp, .int .i64 e_16_5.fN, .sl (List.map I e_16_5.fType), .sl (List.map GTerm_S e_16_5.fKids)])), some (.no), some (.call (.agg [.int .i64 r_16_7.fOp, .int .i64 r_16_7.fN, .osl (List.map I r_16_7.fType), .osl (List.map GTerm_O r_16_7.fKids)]) [] 21), some (.eqv (.mk 23 true) ⟨[(63, .rs 23)], [(23, some (.arr (List.map GTerm_O [r_16_7]))), (21, none), (22, none)], [23]⟩), some (.eqv (.mk 24 true) ⟨[(64, .rs 24)], [(24, some (.arr (List.map GTerm_O (out_32 ++ [r_16_7])))), (16, none), (23, none)], [24]⟩), some (.no), some (.no)]) (kt := [1, 2, 3, 6]) (ko := [1, 2, 3, 6, 24]) (T' := [(1, .ra 1 0), (2, .ra 2 0), (3, .ra 3 0), (6, .int .i64 k_30)]) (O' := [(1, .box [.int .i64 t0.fOp, .int .i64 t0.fN, .sl (List.map I t0.fType), .sl (List.map GTerm_S t0.fKids)]), (2, .box [.int .i64 0, .int .i64 0, .nils, .nils]), (3, .box [.int .i64 t0.fOp, .int .i64 out_5, .rs 6, .rs 24]), (6, .arr (List.map I out_27)), (24, .arr (List.map GTerm_O (out_32 ++ [r_16_7])))]) (by kernel_rfl) (And.intro (idx_sl (enc := GTerm_S) (x := .agg [.int .i64 e_16_5.fOp, .int .i64 e_16_5.fN, .sl (List.map I e_16_5.fType), .sl (List.map GTerm_S e_16_5.fKids)]) hi_16_5 (eq_GTerm_S e_16_5)) (And.intro (spec_l9Open_ih _ _ hr_16_7) (And.intro bod_77 (And.intro (Or.inl rfl : ([] : List Nat) = [] ∨ noSh (.agg [.int .i64 r_16_7.fOp, .int .i64 r_16_7.fN, .osl (List.map I r_16_7.fType), .osl (List.map GTerm_O r_16_7.fKids)]) = true) (And.intro (congrArg (fun z => (⟨[(63, .rs 23)], [(23, some (.arr z)), (21, none), (22, none)], [23]⟩ : Wr)) ((rows1 (eq_GTerm_O r_16_7) rows0) : [AV.agg [.int .i64 r_16_7.fOp, .int .i64 r_16_7.fN, AV.osl (List.map I r_16_7.fType), AV.osl (List.map GTerm_O r_16_7.fKids)]] = List.map GTerm_O [r_16_7])) (And.intro (congrArg (fun z => (⟨[(64, .rs 24)], [(24, some (.arr z)), (16, none), (23, none)], [24]⟩ : Wr)) ((List.map_append).symm : (List.map GTerm_O out_32) ++ (List.map GTerm_O [r_16_7]) = List.map GTerm_O (out_32 ++ [r_16_7]))) (And.intro (app_ob (enc1 := GTerm_O) (enc2 := GTerm_O) (e1 := out_32) (e2 := [r_16_7]) (sz := 4) ek_GTerm_O ek_GTerm_O hk_16_9) trivial))))))) (by kernel_rfl) (by kernel_rfl) ?_
      refine blockQ_norm ?_
      refine seqQ_norm ?_
      refine Wp.reg tiok mix hc (by kernel_rfl) (ah := none) (rs := [some (.no), some (.no), some (.no)]) (kt := [1, 2, 3, 6]) (ko := [1, 2, 3, 6, 24]) (T' := [(1, .ra 1 0), (2, .ra 2 0), (3, .ra 3 0), (6, .int .i64 (wr (k_30 + 1)))]) (O' := [(1, .box [.int .i64 t0.fOp, .int .i64 t0.fN, .sl (List.map I t0.fType), .sl (List.map GTerm_S t0.fKids)]), (2, .box [.int .i64 0, .int .i64 0, .nils, .nils]), (3, .box [.int .i64 t0.fOp, .int .i64 out_5, .rs 6, .rs 24]), (6, .arr (List.map I out_27)), (24, .arr (List.map GTerm_O (out_32 ++ [r_16_7])))]) (by kernel_rfl) trivial (by kernel_rfl) (by kernel_rfl) ?_
      refine loopQ_norm ?_
      exact WpL.view (fun a w hv => SRx.renL [(16, 24)] hv (by kernel_rfl) (by kernel_rfl) (by kernel_rfl)) (spec_l9Open_l1_ih _ _ h c hc)
    · refine Wp.condF (b := (decide (k_30 < (t0.fKids.length : Int)))) (by kernel_rfl) (by kernel_rfl) hb_33 ?_
      refine Wp.exitN (i := 2) (by kernel_rfl) ?_
      refine seqQ_exit ?_
      refine loopQ_exit ?_
      obtain rfl := Option.some.inj h
      exact Into.view (fun a w hv => SRx.renL [] hv (by kernel_rfl) (by kernel_rfl) (by kernel_rfl))
theorem spec_l9Open_s : ∀ p r, spec_l9Open p = some r → M_spec_l9Open p r := spec_l9Open_all.1
theorem spec_l9Open_l1_s : ∀ p r, spec_l9Open_l1 p = some r → M_spec_l9Open_l1 p r := spec_l9Open_all.2
def spec_OpenAll (t0 : GTerm) : Option (GTerm × Bool) :=
    (spec_IsWritten t0) >>= fun r_1_1 =>
    if r_1_1 = true then
      (spec_l9Open t0) >>= fun r_3_1 =>
      some (r_3_1, true)
    else
      some ((GTerm.mk 0 0 [] []), false)
def M_spec_OpenAll (t0 : GTerm) (r : GTerm × Bool) : Prop :=
  FnSound Try.prog 35 [.agg [.int .i64 t0.fOp, .int .i64 t0.fN, .sl (List.map I t0.fType), .sl (List.map GTerm_S t0.fKids)]] (.tup [.agg [.int .i64 r.1.fOp, .int .i64 r.1.fN, .osl (List.map I r.1.fType), .osl (List.map GTerm_O r.1.fKids)], .bool r.2]) []
theorem spec_OpenAll_s : ∀ p r, spec_OpenAll p = some r → M_spec_OpenAll p r := by
  rintro t0 r h
  unfold spec_OpenAll at h
  show FnSound Try.prog 35 [.agg [.int .i64 t0.fOp, .int .i64 t0.fN, .sl (List.map I t0.fType), .sl (List.map GTerm_S t0.fKids)]] (.tup [.agg [.int .i64 r.1.fOp, .int .i64 r.1.fN, .osl (List.map I r.1.fType), .osl (List.map GTerm_O r.1.fKids)], .bool r.2]) []
  refine FnSound.body0 tiok (fn := Try.f35) (code := B35) (by kernel_rfl) (by kernel_rfl) (by kernel_rfl) (by kernel_rfl) (nt := 10) (by kernel_rfl) (by kernel_rfl) (T := [(0, .agg [.int .i64 t0.fOp, .int .i64 t0.fN, .sl (List.map I t0.fType), .sl (List.map GTerm_S t0.fKids)])]) (O := []) (by kernel_rfl) (by kernel_rfl) (fun c hc => ?_)
  refine Wp.seqN (by kernel_rfl) ?_
  refine Wp.reg tiok mix hc (by kernel_rfl) (ah := none) (rs := [some (.new 1), some (.new 2), some (.no)]) (kt := [1, 2]) (ko := [1, 2]) (T' := [(1, .ra 1 0), (2, .ra 2 0)]) (O' := [(1, .box [.int .i64 t0.fOp, .int .i64 t0.fN, .sl (List.map I t0.fType), .sl (List.map GTerm_S t0.fKids)]), (2, .box [.int .i64 0, .int .i64 0, .nils, .nils])]) (by kernel_rfl) trivial (by kernel_rfl) (by kernel_rfl) ?_
  refine seqQ_norm ?_
  refine Wp.seqN (by kernel_rfl) ?_
  refine Wp.seqN (by kernel_rfl) ?_
  obtain ⟨r_1_1, hr_1_1, h⟩ := bsome h
  refine Wp.reg tiok mix hc (by kernel_rfl) (ah := none) (rs := [some (.no), some (.call (.bool r_1_1) [] 1), some (.no)]) (kt := [1, 2, 6]) (ko := [1, 2]) (T' := [(1, .ra 1 0), (2, .ra 2 0), (6, .bool (!r_1_1))]) (O' := [(1, .box [.int .i64 t0.fOp, .int .i64 t0.fN, .sl (List.map I t0.fType), .sl (List.map GTerm_S t0.fKids)]), (2, .box [.int .i64 0, .int .i64 0, .nils, .nils])]) (by kernel_rfl) (And.intro (spec_IsWritten_s _ _ hr_1_1) (And.intro bod_58 (And.intro (Or.inl rfl : ([] : List Nat) = [] ∨ noSh (.bool r_1_1) = true) trivial))) (by kernel_rfl) (by kernel_rfl) ?_
  refine seqQ_norm ?_
  rcases itesome h with ⟨hb_1, h⟩ | ⟨hb_1, h⟩
  · refine Wp.condF (b := (!r_1_1)) (by kernel_rfl) (by kernel_rfl) (nF hb_1) ?_
    refine Wp.skipN (by kernel_rfl) ?_
    refine seqQ_norm ?_
    refine Wp.seqN (by kernel_rfl) ?_
    obtain ⟨r_3_1, hr_3_1, h⟩ := bsome h
    refine Wp.reg tiok mix hc (by kernel_rfl) (ah := none) (rs := [some (.no), some (.call (.agg [.int .i64 r_3_1.fOp, .int .i64 r_3_1.fN, .osl (List.map I r_3_1.fType), .osl (List.map GTerm_O r_3_1.fKids)]) [] 3), some (.no), some (.no)]) (kt := [2, 3]) (ko := [2, 3, 4]) (T' := [(2, .ra 2 0), (3, .bool true)]) (O' := [(2, .box [.int .i64 r_3_1.fOp, .int .i64 r_3_1.fN, .rs 3, .rs 4]), (3, .arr (List.map I r_3_1.fType)), (4, .arr (List.map GTerm_O r_3_1.fKids))]) (by kernel_rfl) (And.intro (spec_l9Open_s _ _ hr_3_1) (And.intro bod_77 (And.intro (Or.inl rfl : ([] : List Nat) = [] ∨ noSh (.agg [.int .i64 r_3_1.fOp, .int .i64 r_3_1.fN, .osl (List.map I r_3_1.fType), .osl (List.map GTerm_O r_3_1.fKids)]) = true) trivial))) (by kernel_rfl) (by kernel_rfl) ?_
    refine seqQ_norm ?_
    refine Wp.retN (by kernel_rfl) ?_
    obtain rfl := Option.some.inj h
    exact RetQ.ret (fl := [true, true]) (by kernel_rfl)
  · refine Wp.condT (b := (!r_1_1)) (by kernel_rfl) (by kernel_rfl) (nT hb_1) ?_
    refine Wp.seqN (by kernel_rfl) ?_
    refine Wp.reg tiok mix hc (by kernel_rfl) (ah := none) (rs := [some (.no), some (.no), some (.no)]) (kt := [2, 3]) (ko := [2]) (T' := [(2, .ra 2 0), (3, .bool false)]) (O' := [(2, .box [.int .i64 0, .int .i64 0, .nils, .nils])]) (by kernel_rfl) trivial (by kernel_rfl) (by kernel_rfl) ?_
    refine seqQ_norm ?_
    refine Wp.retN (by kernel_rfl) ?_
    refine seqQ_ret ?_
    obtain rfl := Option.some.inj h
    exact RetQ.ret (fl := [true, true]) (by kernel_rfl)
def impl_within (p : Int × Int × Int) : Option (Bool) :=
  match p with
  | (n0, low1, high2) =>
    (
      if (decide (n0 ≥ low1)) = true then
        some ((decide (n0 ≤ high2)))
      else
        some (false)
    ) >>= fun v_1 =>
    some v_1
def M_impl_within (p : Int × Int × Int) (r : Bool) : Prop :=
  match p with
  | (n0, low1, high2) => FnSound Try.prog 91 [.int .i64 n0, .int .i64 low1, .int .i64 high2] (.bool r) []
theorem impl_within_s : ∀ p r, impl_within p = some r → M_impl_within p r := by
  rintro ⟨n0, low1, high2⟩ r h
  unfold impl_within at h
  show FnSound Try.prog 91 [.int .i64 n0, .int .i64 low1, .int .i64 high2] (.bool r) []
  refine FnSound.body0 tiok (fn := Try.f91) (code := B91) (by kernel_rfl) (by kernel_rfl) (by kernel_rfl) (by kernel_rfl) (nt := 15) (by kernel_rfl) (by kernel_rfl) (T := [(0, .int .i64 n0), (1, .int .i64 low1), (2, .int .i64 high2)]) (O := []) (by kernel_rfl) (by kernel_rfl) (fun c hc => ?_)
  refine Wp.seqN (by kernel_rfl) ?_
  refine Wp.reg tiok mix hc (by kernel_rfl) (ah := none) (rs := [some (.no)]) (kt := [0, 1, 2]) (ko := []) (T' := [(0, .int .i64 n0), (1, .int .i64 low1), (2, .int .i64 high2)]) (O' := []) (by kernel_rfl) trivial (by kernel_rfl) (by kernel_rfl) ?_
  refine seqQ_norm ?_
  refine Wp.seqN (by kernel_rfl) ?_
  obtain ⟨v_1, hj_2, h⟩ := bsome h
  refine Wp.into (x := .normal) (mkS [(6, .bool v_1)] []) ?_ ?_
  · replace h := hj_2
    rcases itesome h with ⟨hb_1_0, h⟩ | ⟨hb_1_0, h⟩
    · refine Wp.reg tiok mix hc (by kernel_rfl) (ah := none) (rs := [some (.no), some (.no), some (.no), some (.no), some (.no), some (.no), some (.no), some (.cond true), some (.no)]) (kt := [6]) (ko := []) (T' := [(6, .bool (decide (n0 ≤ high2)))]) (O' := []) (by kernel_rfl) (And.intro hb_1_0 (And.intro hb_1_0 (And.intro hb_1_0 (And.intro hb_1_0 trivial)))) (by kernel_rfl) (by kernel_rfl) ?_
      obtain rfl := Option.some.inj h
      exact Into.mk
    · refine Wp.reg tiok mix hc (by kernel_rfl) (ah := none) (rs := [some (.no), some (.no), some (.no), some (.no), none, none, none, some (.cond false), some (.no)]) (kt := [6]) (ko := []) (T' := [(6, .bool false)]) (O' := []) (by kernel_rfl) (And.intro (neT hb_1_0 : (decide (n0 ≥ low1)) ≠ true) (And.intro (neT hb_1_0 : (decide (n0 ≥ low1)) ≠ true) (And.intro (neT hb_1_0 : (decide (n0 ≥ low1)) ≠ true) (And.intro hb_1_0 trivial)))) (by kernel_rfl) (by kernel_rfl) ?_
      obtain rfl := Option.some.inj h
      exact Into.mk
  · clear hj_2
    refine seqQ_norm ?_
    refine Wp.retN (by kernel_rfl) ?_
    obtain rfl := Option.some.inj h
    exact RetQ.ret (fl := [true]) (by kernel_rfl)
def impl_formOf (op0 : Int) : Option (GForm × Bool) :=
    (impl_within (op0, 0, 12)) >>= fun r_1_1 =>
    if r_1_1 = true then
      (idx [(GForm.mk (ByteArray.mk #[120]) 0 false false), (GForm.mk ByteArray.empty 0 false false), (GForm.mk (ByteArray.mk #[97, 100, 100]) 2 false false), (GForm.mk (ByteArray.mk #[105, 102]) 3 false false), (GForm.mk (ByteArray.mk #[112, 97, 105, 114]) 2 false false), (GForm.mk (ByteArray.mk #[115, 112, 108, 105, 116]) 2 true false), (GForm.mk (ByteArray.mk #[108, 101, 102, 116]) 1 false true), (GForm.mk (ByteArray.mk #[114, 105, 103, 104, 116]) 1 false true), (GForm.mk (ByteArray.mk #[99, 97, 115, 101]) 3 true false), (GForm.mk (ByteArray.mk #[102, 117, 110]) 1 true true), (GForm.mk (ByteArray.mk #[97, 112, 112]) 2 false false), (GForm.mk (ByteArray.mk #[98, 111, 120]) 1 true false), (GForm.mk (ByteArray.mk #[111, 112, 101, 110]) 2 true false)] op0) >>= fun e_3_15 =>
      some (e_3_15, true)
    else
      some ((GForm.mk ByteArray.empty 0 false false), false)
def M_impl_formOf (op0 : Int) (r : GForm × Bool) : Prop :=
  FnSound Try.prog 100 [.int .i64 op0] (.tup [.agg [.str r.1.fword, .int .i64 r.1.fkids, .bool r.1.fgrade, .bool r.1.ftyped], .bool r.2]) []
theorem impl_formOf_s : ∀ p r, impl_formOf p = some r → M_impl_formOf p r := by
  rintro op0 r h
  unfold impl_formOf at h
  show FnSound Try.prog 100 [.int .i64 op0] (.tup [.agg [.str r.1.fword, .int .i64 r.1.fkids, .bool r.1.fgrade, .bool r.1.ftyped], .bool r.2]) []
  refine FnSound.body0 tiok (fn := Try.f100) (code := B100) (by kernel_rfl) (by kernel_rfl) (by kernel_rfl) (by kernel_rfl) (nt := 25) (by kernel_rfl) (by kernel_rfl) (T := [(0, .int .i64 op0)]) (O := []) (by kernel_rfl) (by kernel_rfl) (fun c hc => ?_)
  refine Wp.seqN (by kernel_rfl) ?_
  refine Wp.reg tiok mix hc (by kernel_rfl) (ah := none) (rs := [some (.new 1), some (.no)]) (kt := [0, 2]) (ko := [1]) (T' := [(0, .int .i64 op0), (2, .ra 1 0)]) (O' := [(1, .box [.str ByteArray.empty, .int .i64 0, .bool false, .bool false])]) (by kernel_rfl) trivial (by kernel_rfl) (by kernel_rfl) ?_
  refine seqQ_norm ?_
  refine Wp.seqN (by kernel_rfl) ?_
  refine Wp.seqN (by kernel_rfl) ?_
  obtain ⟨r_1_1, hr_1_1, h⟩ := bsome h
  refine Wp.reg tiok mix hc (by kernel_rfl) (ah := none) (rs := [some (.no), some (.call (.bool r_1_1) [] 1), some (.no)]) (kt := [0, 2, 6]) (ko := [1]) (T' := [(0, .int .i64 op0), (2, .ra 1 0), (6, .bool (!r_1_1))]) (O' := [(1, .box [.str ByteArray.empty, .int .i64 0, .bool false, .bool false])]) (by kernel_rfl) (And.intro (impl_within_s _ _ hr_1_1) (And.intro bod_91 (And.intro (Or.inl rfl : ([] : List Nat) = [] ∨ noSh (.bool r_1_1) = true) trivial))) (by kernel_rfl) (by kernel_rfl) ?_
  refine seqQ_norm ?_
  rcases itesome h with ⟨hb_1, h⟩ | ⟨hb_1, h⟩
  · refine Wp.condF (b := (!r_1_1)) (by kernel_rfl) (by kernel_rfl) (nF hb_1) ?_
    refine Wp.skipN (by kernel_rfl) ?_
    refine seqQ_norm ?_
    refine Wp.seqN (by kernel_rfl) ?_
    obtain ⟨e_3_15, hi_3_15, h⟩ := bsome h
    refine Wp.reg tiok mix hc (by kernel_rfl) (ah := none) (rs := [some (.no), some (.no), some (.no), some (.no), some (.no), some (.no), some (.no), some (.no), some (.no), some (.no), some (.no), some (.no), some (.no), some (.mk 2 true), some (.no), some (.no), some (.el (.agg [.str e_3_15.fword, .int .i64 e_3_15.fkids, .bool e_3_15.fgrade, .bool e_3_15.ftyped])), some (.no), some (.no)]) (kt := [2, 3]) (ko := [1]) (T' := [(2, .ra 1 0), (3, .bool true)]) (O' := [(1, .box [.str e_3_15.fword, .int .i64 e_3_15.fkids, .bool e_3_15.fgrade, .bool e_3_15.ftyped])]) (by kernel_rfl) (And.intro (idx_own (enc := GForm_v) hi_3_15) (And.intro (idx_sl (enc := GForm_v) (x := .agg [.str e_3_15.fword, .int .i64 e_3_15.fkids, .bool e_3_15.fgrade, .bool e_3_15.ftyped]) hi_3_15 (eq_GForm_v e_3_15)).2 trivial)) (by kernel_rfl) (by kernel_rfl) ?_
    refine seqQ_norm ?_
    refine Wp.retN (by kernel_rfl) ?_
    obtain rfl := Option.some.inj h
    exact RetQ.ret (fl := [true, true]) (by kernel_rfl)
  · refine Wp.condT (b := (!r_1_1)) (by kernel_rfl) (by kernel_rfl) (nT hb_1) ?_
    refine Wp.seqN (by kernel_rfl) ?_
    refine Wp.reg tiok mix hc (by kernel_rfl) (ah := none) (rs := [some (.no), some (.no), some (.no)]) (kt := [2, 3]) (ko := [1]) (T' := [(2, .ra 1 0), (3, .bool false)]) (O' := [(1, .box [.str ByteArray.empty, .int .i64 0, .bool false, .bool false])]) (by kernel_rfl) trivial (by kernel_rfl) (by kernel_rfl) ?_
    refine seqQ_norm ?_
    refine Wp.retN (by kernel_rfl) ?_
    refine seqQ_ret ?_
    obtain rfl := Option.some.inj h
    exact RetQ.ret (fl := [true, true]) (by kernel_rfl)
def impl_writtenSize_c1 (g0 : Int) : Option (Bool) :=
    (impl_within (g0, (-1), 15)) >>= fun r_1_1 =>
    some r_1_1
def M_impl_writtenSize_c1 (g0 : Int) (r : Bool) : Prop :=
  FnSound Try.prog 123 [.int .i64 g0] (.bool r) []
theorem impl_writtenSize_c1_s : ∀ p r, impl_writtenSize_c1 p = some r → M_impl_writtenSize_c1 p r := by
  rintro g0 r h
  unfold impl_writtenSize_c1 at h
  show FnSound Try.prog 123 [.int .i64 g0] (.bool r) []
  refine FnSound.body0 tiok (fn := Try.f123) (code := B123) (by kernel_rfl) (by kernel_rfl) (by kernel_rfl) (by kernel_rfl) (nt := 5) (by kernel_rfl) (by kernel_rfl) (T := [(0, .int .i64 g0)]) (O := []) (by kernel_rfl) (by kernel_rfl) (fun c hc => ?_)
  refine Wp.seqN (by kernel_rfl) ?_
  refine Wp.reg tiok mix hc (by kernel_rfl) (ah := none) (rs := [some (.no)]) (kt := [0]) (ko := []) (T' := [(0, .int .i64 g0)]) (O' := []) (by kernel_rfl) trivial (by kernel_rfl) (by kernel_rfl) ?_
  refine seqQ_norm ?_
  refine Wp.seqN (by kernel_rfl) ?_
  obtain ⟨r_1_1, hr_1_1, h⟩ := bsome h
  refine Wp.reg tiok mix hc (by kernel_rfl) (ah := none) (rs := [some (.no), some (.call (.bool r_1_1) [] 1), some (.no)]) (kt := [2]) (ko := []) (T' := [(2, .bool r_1_1)]) (O' := []) (by kernel_rfl) (And.intro (impl_within_s _ _ hr_1_1) (And.intro bod_91 (And.intro (Or.inl rfl : ([] : List Nat) = [] ∨ noSh (.bool r_1_1) = true) trivial))) (by kernel_rfl) (by kernel_rfl) ?_
  refine seqQ_norm ?_
  refine Wp.retN (by kernel_rfl) ?_
  obtain rfl := Option.some.inj h
  exact RetQ.ret (fl := [true]) (by kernel_rfl)
def impl_shape (code0 : Int) : Option (Int × Int) :=
    (impl_within (code0, 0, 2)) >>= fun r_1_1 =>
    if r_1_1 = true then
      some (code0, (-1))
    else
      (impl_within (code0, 3, 18)) >>= fun r_3_1 =>
      if r_3_1 = true then
        some (3, (wr (code0 - 3)))
      else
        (impl_within (code0, 19, 34)) >>= fun r_5_1 =>
        if r_5_1 = true then
          some (4, (wr (code0 - 19)))
        else
          if (code0 == 35) = true then
            some (3, (-1))
          else
            if (code0 == 36) = true then
              some (4, (-1))
            else
              some (5, (-1))
def M_impl_shape (code0 : Int) (r : Int × Int) : Prop :=
  FnSound Try.prog 111 [.int .i64 code0] (.tup [.int .i64 r.1, .int .i64 r.2]) []
theorem impl_shape_s : ∀ p r, impl_shape p = some r → M_impl_shape p r := by
  rintro code0 r h
  unfold impl_shape at h
  show FnSound Try.prog 111 [.int .i64 code0] (.tup [.int .i64 r.1, .int .i64 r.2]) []
  refine FnSound.body0 tiok (fn := Try.f111) (code := B111) (by kernel_rfl) (by kernel_rfl) (by kernel_rfl) (by kernel_rfl) (nt := 24) (by kernel_rfl) (by kernel_rfl) (T := [(0, .int .i64 code0)]) (O := []) (by kernel_rfl) (by kernel_rfl) (fun c hc => ?_)
  refine Wp.seqN (by kernel_rfl) ?_
  refine Wp.reg tiok mix hc (by kernel_rfl) (ah := none) (rs := [some (.no), some (.no)]) (kt := [0]) (ko := []) (T' := [(0, .int .i64 code0)]) (O' := []) (by kernel_rfl) trivial (by kernel_rfl) (by kernel_rfl) ?_
  refine seqQ_norm ?_
  refine Wp.seqN (by kernel_rfl) ?_
  refine Wp.blockN (i := 0) (by kernel_rfl) ?_
  refine Wp.seqN (by kernel_rfl) ?_
  obtain ⟨r_1_1, hr_1_1, h⟩ := bsome h
  refine Wp.reg tiok mix hc (by kernel_rfl) (ah := none) (rs := [some (.no), some (.call (.bool r_1_1) [] 1), some (.no)]) (kt := [0, 4]) (ko := []) (T' := [(0, .int .i64 code0), (4, .bool r_1_1)]) (O' := []) (by kernel_rfl) (And.intro (impl_within_s _ _ hr_1_1) (And.intro bod_91 (And.intro (Or.inl rfl : ([] : List Nat) = [] ∨ noSh (.bool r_1_1) = true) trivial))) (by kernel_rfl) (by kernel_rfl) ?_
  refine seqQ_norm ?_
  rcases itesome h with ⟨hb_1, h⟩ | ⟨hb_1, h⟩
  · refine Wp.condT (b := r_1_1) (by kernel_rfl) (by kernel_rfl) hb_1 ?_
    refine Wp.seqN (by kernel_rfl) ?_
    refine Wp.reg tiok mix hc (by kernel_rfl) (ah := none) (rs := [some (.no), some (.no), some (.no)]) (kt := [2, 3]) (ko := []) (T' := [(2, .int .i64 code0), (3, .int .i64 (-1))]) (O' := []) (by kernel_rfl) trivial (by kernel_rfl) (by kernel_rfl) ?_
    refine seqQ_norm ?_
    refine Wp.retN (by kernel_rfl) ?_
    refine blockQ_ret ?_
    refine seqQ_ret ?_
    obtain rfl := Option.some.inj h
    exact RetQ.ret (fl := [true, true]) (by kernel_rfl)
  · refine Wp.condF (b := r_1_1) (by kernel_rfl) (by kernel_rfl) hb_1 ?_
    refine Wp.seqN (by kernel_rfl) ?_
    obtain ⟨r_3_1, hr_3_1, h⟩ := bsome h
    refine Wp.reg tiok mix hc (by kernel_rfl) (ah := none) (rs := [some (.no), some (.call (.bool r_3_1) [] 1), some (.no)]) (kt := [0, 8]) (ko := []) (T' := [(0, .int .i64 code0), (8, .bool r_3_1)]) (O' := []) (by kernel_rfl) (And.intro (impl_within_s _ _ hr_3_1) (And.intro bod_91 (And.intro (Or.inl rfl : ([] : List Nat) = [] ∨ noSh (.bool r_3_1) = true) trivial))) (by kernel_rfl) (by kernel_rfl) ?_
    refine seqQ_norm ?_
    rcases itesome h with ⟨hb_2, h⟩ | ⟨hb_2, h⟩
    · refine Wp.condT (b := r_3_1) (by kernel_rfl) (by kernel_rfl) hb_2 ?_
      refine Wp.seqN (by kernel_rfl) ?_
      refine Wp.reg tiok mix hc (by kernel_rfl) (ah := none) (rs := [some (.no), some (.no), some (.no), some (.no)]) (kt := [2, 3]) (ko := []) (T' := [(2, .int .i64 3), (3, .int .i64 (wr (code0 - 3)))]) (O' := []) (by kernel_rfl) trivial (by kernel_rfl) (by kernel_rfl) ?_
      refine seqQ_norm ?_
      refine Wp.retN (by kernel_rfl) ?_
      refine blockQ_ret ?_
      refine seqQ_ret ?_
      obtain rfl := Option.some.inj h
      exact RetQ.ret (fl := [true, true]) (by kernel_rfl)
    · refine Wp.condF (b := r_3_1) (by kernel_rfl) (by kernel_rfl) hb_2 ?_
      refine Wp.seqN (by kernel_rfl) ?_
      obtain ⟨r_5_1, hr_5_1, h⟩ := bsome h
      refine Wp.reg tiok mix hc (by kernel_rfl) (ah := none) (rs := [some (.no), some (.call (.bool r_5_1) [] 1), some (.no)]) (kt := [0, 13]) (ko := []) (T' := [(0, .int .i64 code0), (13, .bool r_5_1)]) (O' := []) (by kernel_rfl) (And.intro (impl_within_s _ _ hr_5_1) (And.intro bod_91 (And.intro (Or.inl rfl : ([] : List Nat) = [] ∨ noSh (.bool r_5_1) = true) trivial))) (by kernel_rfl) (by kernel_rfl) ?_
      refine seqQ_norm ?_
      rcases itesome h with ⟨hb_3, h⟩ | ⟨hb_3, h⟩
      · refine Wp.condT (b := r_5_1) (by kernel_rfl) (by kernel_rfl) hb_3 ?_
        refine Wp.seqN (by kernel_rfl) ?_
        refine Wp.reg tiok mix hc (by kernel_rfl) (ah := none) (rs := [some (.no), some (.no), some (.no), some (.no)]) (kt := [2, 3]) (ko := []) (T' := [(2, .int .i64 4), (3, .int .i64 (wr (code0 - 19)))]) (O' := []) (by kernel_rfl) trivial (by kernel_rfl) (by kernel_rfl) ?_
        refine seqQ_norm ?_
        refine Wp.retN (by kernel_rfl) ?_
        refine blockQ_ret ?_
        refine seqQ_ret ?_
        obtain rfl := Option.some.inj h
        exact RetQ.ret (fl := [true, true]) (by kernel_rfl)
      · refine Wp.condF (b := r_5_1) (by kernel_rfl) (by kernel_rfl) hb_3 ?_
        refine Wp.seqN (by kernel_rfl) ?_
        refine Wp.reg tiok mix hc (by kernel_rfl) (ah := none) (rs := [some (.no), some (.no), some (.no)]) (kt := [0, 18]) (ko := []) (T' := [(0, .int .i64 code0), (18, .bool (code0 == 35))]) (O' := []) (by kernel_rfl) trivial (by kernel_rfl) (by kernel_rfl) ?_
        refine seqQ_norm ?_
        rcases itesome h with ⟨hb_4, h⟩ | ⟨hb_4, h⟩
        · refine Wp.condT (b := (code0 == 35)) (by kernel_rfl) (by kernel_rfl) hb_4 ?_
          refine Wp.seqN (by kernel_rfl) ?_
          refine Wp.reg tiok mix hc (by kernel_rfl) (ah := none) (rs := [some (.no), some (.no)]) (kt := [2, 3]) (ko := []) (T' := [(2, .int .i64 3), (3, .int .i64 (-1))]) (O' := []) (by kernel_rfl) trivial (by kernel_rfl) (by kernel_rfl) ?_
          refine seqQ_norm ?_
          refine Wp.retN (by kernel_rfl) ?_
          refine blockQ_ret ?_
          refine seqQ_ret ?_
          obtain rfl := Option.some.inj h
          exact RetQ.ret (fl := [true, true]) (by kernel_rfl)
        · refine Wp.condF (b := (code0 == 35)) (by kernel_rfl) (by kernel_rfl) hb_4 ?_
          refine Wp.seqN (by kernel_rfl) ?_
          refine Wp.reg tiok mix hc (by kernel_rfl) (ah := none) (rs := [some (.no), some (.no), some (.no)]) (kt := [21]) (ko := []) (T' := [(21, .bool (code0 == 36))]) (O' := []) (by kernel_rfl) trivial (by kernel_rfl) (by kernel_rfl) ?_
          refine seqQ_norm ?_
          rcases itesome h with ⟨hb_5, h⟩ | ⟨hb_5, h⟩
          · refine Wp.condT (b := (code0 == 36)) (by kernel_rfl) (by kernel_rfl) hb_5 ?_
            refine Wp.seqN (by kernel_rfl) ?_
            refine Wp.reg tiok mix hc (by kernel_rfl) (ah := none) (rs := [some (.no), some (.no)]) (kt := [2, 3]) (ko := []) (T' := [(2, .int .i64 4), (3, .int .i64 (-1))]) (O' := []) (by kernel_rfl) trivial (by kernel_rfl) (by kernel_rfl) ?_
            refine seqQ_norm ?_
            refine Wp.retN (by kernel_rfl) ?_
            refine blockQ_ret ?_
            refine seqQ_ret ?_
            obtain rfl := Option.some.inj h
            exact RetQ.ret (fl := [true, true]) (by kernel_rfl)
          · refine Wp.condF (b := (code0 == 36)) (by kernel_rfl) (by kernel_rfl) hb_5 ?_
            refine Wp.skipN (by kernel_rfl) ?_
            refine blockQ_norm ?_
            refine seqQ_norm ?_
            refine Wp.seqN (by kernel_rfl) ?_
            refine Wp.reg tiok mix hc (by kernel_rfl) (ah := none) (rs := [some (.no), some (.no)]) (kt := [2, 3]) (ko := []) (T' := [(2, .int .i64 5), (3, .int .i64 (-1))]) (O' := []) (by kernel_rfl) trivial (by kernel_rfl) (by kernel_rfl) ?_
            refine seqQ_norm ?_
            refine Wp.retN (by kernel_rfl) ?_
            obtain rfl := Option.some.inj h
            exact RetQ.ret (fl := [true, true]) (by kernel_rfl)
def impl_typeEnd (p : (List Int) × Int) : Option (Int) :=
  match p with
  | (ty0, at1) =>
    (
      if (decide (at1 < 0)) = true then
        some (true)
      else
        some ((decide (at1 ≥ (ty0.length : Int))))
    ) >>= fun v_1 =>
    if v_1 = true then
      some (-1)
    else
      (idx ty0 at1) >>= fun e_3_2 =>
      (impl_shape e_3_2) >>= fun (r_3_4_0, r_3_4_1) =>
      if (r_3_4_0 == 0) = true then
        some (wr (at1 + 1))
      else
        if (r_3_4_0 == 4) = true then
          (impl_typeEnd (ty0, (wr (at1 + 1)))) >>= fun r_8_3 =>
          some r_8_3
        else
          if (r_3_4_0 == 5) = true then
            some (-1)
          else
            (impl_typeEnd (ty0, (wr (at1 + 1)))) >>= fun r_11_4 =>
            (impl_typeEnd (ty0, r_11_4)) >>= fun r_11_5 =>
            some r_11_5
  partial_fixpoint
def M_impl_typeEnd (p : (List Int) × Int) (r : Int) : Prop :=
  match p with
  | (ty0, at1) => FnSound Try.prog 131 [.sl (List.map I ty0), .int .i64 at1] (.int .i64 r) []
theorem impl_typeEnd_s : ∀ p r, impl_typeEnd p = some r → M_impl_typeEnd p r := by
  refine impl_typeEnd.partial_correctness M_impl_typeEnd ?_
  rintro impl_typeEnd_f impl_typeEnd_ih ⟨ty0, at1⟩ r h
  show FnSound Try.prog 131 [.sl (List.map I ty0), .int .i64 at1] (.int .i64 r) []
  refine FnSound.body0 tiok (fn := Try.f131) (code := B131) (by kernel_rfl) (by kernel_rfl) (by kernel_rfl) (by kernel_rfl) (nt := 42) (by kernel_rfl) (by kernel_rfl) (T := [(0, .sl (List.map I ty0)), (1, .int .i64 at1)]) (O := []) (by kernel_rfl) (by kernel_rfl) (fun c hc => ?_)
  refine Wp.seqN (by kernel_rfl) ?_
  refine Wp.reg tiok mix hc (by kernel_rfl) (ah := none) (rs := [some (.no)]) (kt := [0, 1]) (ko := []) (T' := [(0, .sl (List.map I ty0)), (1, .int .i64 at1)]) (O' := []) (by kernel_rfl) trivial (by kernel_rfl) (by kernel_rfl) ?_
  refine seqQ_norm ?_
  refine Wp.seqN (by kernel_rfl) ?_
  refine Wp.seqN (by kernel_rfl) ?_
  obtain ⟨v_1, hj_2, h⟩ := bsome h
  refine Wp.into (x := .normal) (mkS [(0, .sl (List.map I ty0)), (1, .int .i64 at1), (14, .bool v_1)] []) ?_ ?_
  · replace h := hj_2
    rcases itesome h with ⟨hb_1_0, h⟩ | ⟨hb_1_0, h⟩
    · refine Wp.reg tiok mix hc (by kernel_rfl) (ah := none) (rs := [some (.no), some (.no), some (.no), none, none, none, none, some (.cond true)]) (kt := [0, 1, 14]) (ko := []) (T' := [(0, .sl (List.map I ty0)), (1, .int .i64 at1), (14, .bool true)]) (O' := []) (by kernel_rfl) (And.intro (neF hb_1_0 : (decide (at1 < 0)) ≠ false) (And.intro (neF hb_1_0 : (decide (at1 < 0)) ≠ false) (And.intro (neF hb_1_0 : (decide (at1 < 0)) ≠ false) (And.intro (neF hb_1_0 : (decide (at1 < 0)) ≠ false) (And.intro hb_1_0 trivial))))) (by kernel_rfl) (by kernel_rfl) ?_
      obtain rfl := Option.some.inj h
      exact Into.mk
    · refine Wp.reg tiok mix hc (by kernel_rfl) (ah := none) (rs := [some (.no), some (.no), some (.no), some (.no), some (.no), some (.eqv (.no) ⟨[(12, .int .i64 (ty0.length : Int))], [], []⟩), some (.no), some (.cond false)]) (kt := [0, 1, 14]) (ko := []) (T' := [(0, .sl (List.map I ty0)), (1, .int .i64 at1), (14, .bool (decide (at1 ≥ (ty0.length : Int))))]) (O' := []) (by kernel_rfl) (And.intro hb_1_0 (And.intro hb_1_0 (And.intro hb_1_0 (And.intro (lenT (d := 12) I ty0) (And.intro hb_1_0 (And.intro hb_1_0 trivial)))))) (by kernel_rfl) (by kernel_rfl) ?_
      obtain rfl := Option.some.inj h
      exact Into.mk
  · clear hj_2
    refine seqQ_norm ?_
    rcases itesome h with ⟨hb_3, h⟩ | ⟨hb_3, h⟩
    · refine Wp.condT (b := v_1) (by kernel_rfl) (by kernel_rfl) hb_3 ?_
      refine Wp.seqN (by kernel_rfl) ?_
      refine Wp.reg tiok mix hc (by kernel_rfl) (ah := none) (rs := [some (.no)]) (kt := [4]) (ko := []) (T' := [(4, .int .i64 (-1))]) (O' := []) (by kernel_rfl) trivial (by kernel_rfl) (by kernel_rfl) ?_
      refine seqQ_norm ?_
      refine Wp.retN (by kernel_rfl) ?_
      refine seqQ_ret ?_
      obtain rfl := Option.some.inj h
      exact RetQ.ret (fl := [true]) (by kernel_rfl)
    · refine Wp.condF (b := v_1) (by kernel_rfl) (by kernel_rfl) hb_3 ?_
      refine Wp.skipN (by kernel_rfl) ?_
      refine seqQ_norm ?_
      refine Wp.seqN (by kernel_rfl) ?_
      obtain ⟨e_3_2, hi_3_2, h⟩ := bsome h
      obtain ⟨⟨r_3_4_0, r_3_4_1⟩, hr_3_4, h⟩ := bsome h
      refine Wp.reg tiok mix hc (by kernel_rfl) (ah := none) (rs := [some (.no), some (.no), some (.el (.int .i64 e_3_2)), some (.no), some (.call (.tup [.int .i64 r_3_4_0, .int .i64 r_3_4_1]) [] 1), some (.no), some (.no), some (.no), some (.no), some (.no)]) (kt := [0, 1, 5]) (ko := []) (T' := [(0, .sl (List.map I ty0)), (1, .int .i64 at1), (5, .int .i64 r_3_4_0)]) (O' := []) (by kernel_rfl) (And.intro (idx_sl (enc := I) (x := .int .i64 e_3_2) hi_3_2 (eq_I e_3_2)) (And.intro (impl_shape_s _ _ hr_3_4) (And.intro bod_111 (And.intro (Or.inl rfl : ([] : List Nat) = [] ∨ noSh (.tup [.int .i64 r_3_4_0, .int .i64 r_3_4_1]) = true) trivial)))) (by kernel_rfl) (by kernel_rfl) ?_
      refine seqQ_norm ?_
      refine Wp.seqN (by kernel_rfl) ?_
      refine Wp.seqN (by kernel_rfl) ?_
      refine Wp.reg tiok mix hc (by kernel_rfl) (ah := none) (rs := [some (.no)]) (kt := [0, 1, 23]) (ko := []) (T' := [(0, .sl (List.map I ty0)), (1, .int .i64 at1), (23, .int .i64 r_3_4_0)]) (O' := []) (by kernel_rfl) trivial (by kernel_rfl) (by kernel_rfl) ?_
      refine seqQ_norm ?_
      refine Wp.blockN (i := 0) (by kernel_rfl) ?_
      refine Wp.seqN (by kernel_rfl) ?_
      refine Wp.reg tiok mix hc (by kernel_rfl) (ah := none) (rs := [some (.no), some (.no)]) (kt := [0, 1, 23, 24]) (ko := []) (T' := [(0, .sl (List.map I ty0)), (1, .int .i64 at1), (23, .int .i64 r_3_4_0), (24, .bool (r_3_4_0 == 0))]) (O' := []) (by kernel_rfl) trivial (by kernel_rfl) (by kernel_rfl) ?_
      refine seqQ_norm ?_
      rcases itesome h with ⟨hb_4, h⟩ | ⟨hb_4, h⟩
      · refine Wp.condT (b := (r_3_4_0 == 0)) (by kernel_rfl) (by kernel_rfl) hb_4 ?_
        refine Wp.seqN (by kernel_rfl) ?_
        refine Wp.reg tiok mix hc (by kernel_rfl) (ah := none) (rs := [some (.no), some (.no), some (.no)]) (kt := [4]) (ko := []) (T' := [(4, .int .i64 (wr (at1 + 1)))]) (O' := []) (by kernel_rfl) trivial (by kernel_rfl) (by kernel_rfl) ?_
        refine seqQ_norm ?_
        refine Wp.retN (by kernel_rfl) ?_
        refine blockQ_ret ?_
        refine seqQ_ret ?_
        obtain rfl := Option.some.inj h
        exact RetQ.ret (fl := [true]) (by kernel_rfl)
      · refine Wp.condF (b := (r_3_4_0 == 0)) (by kernel_rfl) (by kernel_rfl) hb_4 ?_
        refine Wp.seqN (by kernel_rfl) ?_
        refine Wp.reg tiok mix hc (by kernel_rfl) (ah := none) (rs := [some (.no), some (.no)]) (kt := [0, 1, 23, 28]) (ko := []) (T' := [(0, .sl (List.map I ty0)), (1, .int .i64 at1), (23, .int .i64 r_3_4_0), (28, .bool (r_3_4_0 == 4))]) (O' := []) (by kernel_rfl) trivial (by kernel_rfl) (by kernel_rfl) ?_
        refine seqQ_norm ?_
        rcases itesome h with ⟨hb_5, h⟩ | ⟨hb_5, h⟩
        · refine Wp.condT (b := (r_3_4_0 == 4)) (by kernel_rfl) (by kernel_rfl) hb_5 ?_
          refine Wp.seqN (by kernel_rfl) ?_
          obtain ⟨r_8_3, hr_8_3, h⟩ := bsome h
          refine Wp.reg tiok mix hc (by kernel_rfl) (ah := none) (rs := [some (.no), some (.no), some (.no), some (.call (.int .i64 r_8_3) [] 1), some (.no)]) (kt := [4]) (ko := []) (T' := [(4, .int .i64 r_8_3)]) (O' := []) (by kernel_rfl) (And.intro (impl_typeEnd_ih _ _ hr_8_3) (And.intro bod_131 (And.intro (Or.inl rfl : ([] : List Nat) = [] ∨ noSh (.int .i64 r_8_3) = true) trivial))) (by kernel_rfl) (by kernel_rfl) ?_
          refine seqQ_norm ?_
          refine Wp.retN (by kernel_rfl) ?_
          refine blockQ_ret ?_
          refine seqQ_ret ?_
          obtain rfl := Option.some.inj h
          exact RetQ.ret (fl := [true]) (by kernel_rfl)
        · refine Wp.condF (b := (r_3_4_0 == 4)) (by kernel_rfl) (by kernel_rfl) hb_5 ?_
          refine Wp.seqN (by kernel_rfl) ?_
          refine Wp.reg tiok mix hc (by kernel_rfl) (ah := none) (rs := [some (.no), some (.no)]) (kt := [0, 1, 34]) (ko := []) (T' := [(0, .sl (List.map I ty0)), (1, .int .i64 at1), (34, .bool (r_3_4_0 == 5))]) (O' := []) (by kernel_rfl) trivial (by kernel_rfl) (by kernel_rfl) ?_
          refine seqQ_norm ?_
          rcases itesome h with ⟨hb_6, h⟩ | ⟨hb_6, h⟩
          · refine Wp.condT (b := (r_3_4_0 == 5)) (by kernel_rfl) (by kernel_rfl) hb_6 ?_
            refine Wp.seqN (by kernel_rfl) ?_
            refine Wp.reg tiok mix hc (by kernel_rfl) (ah := none) (rs := [some (.no)]) (kt := [4]) (ko := []) (T' := [(4, .int .i64 (-1))]) (O' := []) (by kernel_rfl) trivial (by kernel_rfl) (by kernel_rfl) ?_
            refine seqQ_norm ?_
            refine Wp.retN (by kernel_rfl) ?_
            refine blockQ_ret ?_
            refine seqQ_ret ?_
            obtain rfl := Option.some.inj h
            exact RetQ.ret (fl := [true]) (by kernel_rfl)
          · refine Wp.condF (b := (r_3_4_0 == 5)) (by kernel_rfl) (by kernel_rfl) hb_6 ?_
            refine Wp.skipN (by kernel_rfl) ?_
            refine blockQ_norm ?_
            refine seqQ_norm ?_
            refine Wp.seqN (by kernel_rfl) ?_
            obtain ⟨r_11_4, hr_11_4, h⟩ := bsome h
            obtain ⟨r_11_5, hr_11_5, h⟩ := bsome h
            refine Wp.reg tiok mix hc (by kernel_rfl) (ah := none) (rs := [some (.no), some (.no), some (.no), some (.no), some (.call (.int .i64 r_11_4) [] 1), some (.call (.int .i64 r_11_5) [] 1), some (.no)]) (kt := [4]) (ko := []) (T' := [(4, .int .i64 r_11_5)]) (O' := []) (by kernel_rfl) (And.intro (impl_typeEnd_ih _ _ hr_11_4) (And.intro bod_131 (And.intro (Or.inl rfl : ([] : List Nat) = [] ∨ noSh (.int .i64 r_11_4) = true) (And.intro (impl_typeEnd_ih _ _ hr_11_5) (And.intro bod_131 (And.intro (Or.inl rfl : ([] : List Nat) = [] ∨ noSh (.int .i64 r_11_5) = true) trivial)))))) (by kernel_rfl) (by kernel_rfl) ?_
            refine seqQ_norm ?_
            refine Wp.retN (by kernel_rfl) ?_
            obtain rfl := Option.some.inj h
            exact RetQ.ret (fl := [true]) (by kernel_rfl)
end Go.Am
