/- Functions of the program as pure functions, and that it computes them. Printed by a program of mine (gen.py). -/
import Derived.Test.YtfakfcaegabgaaaGFOF0
set_option linter.unusedVariables false
set_option linter.unusedSimpArgs false
set_option maxRecDepth 100000
namespace Go.Am
open Go Go.Proofs
def spec_l2Node (p : GTerm × Int × Int × Bool) : Option (Bool) :=
  match p with
  | (t0, n1, size2, closed3) =>
    (spec_l2Many t0.fOp) >>= fun r_1_5 =>
    if ((t0.fKids.length : Int) != r_1_5) = true then
      some false
    else
      ((
        if (t0.fOp == 0) = true then
          (spec_l1In (t0.fN, 0, (wr (n1 - 1)))) >>= fun r_6_4 =>
          if r_6_4 = true then
            some (.inl ())
          else
            some (.inr false)
        else
          ((
            if (t0.fOp == 1) = true then
              (spec_l1In (t0.fN, 0, 2)) >>= fun r_9_2 =>
              if r_9_2 = true then
                some (.inl ())
              else
                some (.inr false)
            else
              (spec_l2Has t0.fOp) >>= fun r_11_2 =>
              ((
                if r_11_2 = true then
                  (
                    if (decide (t0.fN ≥ size2)) = true then
                      some (true)
                    else
                      if (decide (t0.fN < (-1))) = true then
                        some (true)
                      else
                        if closed3 = true then
                          some ((decide (t0.fN < 0)))
                        else
                          some (false)
                  ) >>= fun v_7 =>
                  if v_7 = true then
                    some (.inr false)
                  else
                    some (.inl ())
                else
                  if (t0.fN != 0) = true then
                    some (.inr false)
                  else
                    some (.inl ())) : Option ((Unit) ⊕ (Bool))) >>= fun fl => match fl with
              | .inl () =>
                some (.inl ())
              | .inr r =>
                some (.inr r)) : Option ((Unit) ⊕ (Bool))) >>= fun fl => match fl with
          | .inl () =>
            some (.inl ())
          | .inr r =>
            some (.inr r)) : Option ((Unit) ⊕ (Bool))) >>= fun fl => match fl with
      | .inl () =>
        (spec_l2Typed t0.fOp) >>= fun r_14_2 =>
        if r_14_2 = true then
          (
            (spec_l2Type t0.fType) >>= fun r_16_2 =>
            if r_16_2 = true then
              (spec_l2Graded (t0.fType, size2, closed3)) >>= fun r_16_8 =>
              some (r_16_8)
            else
              some (false)
          ) >>= fun v_15 =>
          some v_15
        else
          some ((t0.fType.length : Int) == 0)
      | .inr r =>
        some r
def M_spec_l2Node (p : GTerm × Int × Int × Bool) (r : Bool) : Prop :=
  match p with
  | (t0, n1, size2, closed3) => FnSound Try.prog 133 [.agg [.int .i64 t0.fOp, .int .i64 t0.fN, .sl (List.map I t0.fType), .sl (List.map GTerm_S t0.fKids)], .int .i64 n1, .int .i64 size2, .bool closed3] (.bool r) []
theorem spec_l2Node_s : ∀ p r, spec_l2Node p = some r → M_spec_l2Node p r := by
  rintro ⟨t0, n1, size2, closed3⟩ r h
  unfold spec_l2Node at h
  show FnSound Try.prog 133 [.agg [.int .i64 t0.fOp, .int .i64 t0.fN, .sl (List.map I t0.fType), .sl (List.map GTerm_S t0.fKids)], .int .i64 n1, .int .i64 size2, .bool closed3] (.bool r) []
  refine FnSound.body0 tiok (fn := Try.f133) (code := B133) (by kernel_rfl) (by kernel_rfl) (by kernel_rfl) (by kernel_rfl) (nt := 76) (by kernel_rfl) (by kernel_rfl) (T := [(0, .agg [.int .i64 t0.fOp, .int .i64 t0.fN, .sl (List.map I t0.fType), .sl (List.map GTerm_S t0.fKids)]), (1, .int .i64 n1), (2, .int .i64 size2), (3, .bool closed3)]) (O := []) (by kernel_rfl) (by kernel_rfl) (fun c hc => ?_)
  refine Wp.seqN (by kernel_rfl) ?_
  refine Wp.reg tiok mix hc (by kernel_rfl) (ah := none) (rs := [some (.new 1), some (.no)]) (kt := [1, 2, 3, 4]) (ko := [1]) (T' := [(1, .int .i64 n1), (2, .int .i64 size2), (3, .bool closed3), (4, .ra 1 0)]) (O' := [(1, .box [.int .i64 t0.fOp, .int .i64 t0.fN, .sl (List.map I t0.fType), .sl (List.map GTerm_S t0.fKids)])]) (by kernel_rfl) trivial (by kernel_rfl) (by kernel_rfl) ?_
  refine seqQ_norm ?_
  refine Wp.seqN (by kernel_rfl) ?_
  refine Wp.seqN (by kernel_rfl) ?_
  obtain ⟨r_1_5, hr_1_5, h⟩ := bsome h
  refine Wp.reg tiok mix hc (by kernel_rfl) (ah := (some [[], [0], [0, 1], [], [3], [3, 4], [0, 1, 2, 3, 4, 5]])) (rs := [some (.no), some (.no), some (.eqv (.no) ⟨[(11, .int .i64 (t0.fKids.length : Int))], [], []⟩), some (.no), some (.no), some (.call (.int .i64 r_1_5) [] 1), some (.no)]) (kt := [1, 2, 3, 4, 15]) (ko := [1]) (T' := [(1, .int .i64 n1), (2, .int .i64 size2), (3, .bool closed3), (4, .ra 1 0), (15, .bool ((t0.fKids.length : Int) != r_1_5))]) (O' := [(1, .box [.int .i64 t0.fOp, .int .i64 t0.fN, .sl (List.map I t0.fType), .sl (List.map GTerm_S t0.fKids)])]) (by kernel_rfl) (And.intro (lenT (d := 11) GTerm_S t0.fKids) (And.intro (spec_l2Many_s _ _ hr_1_5) (And.intro bod_163 (And.intro (Or.inl rfl : ([] : List Nat) = [] ∨ noSh (.int .i64 r_1_5) = true) trivial)))) (by kernel_rfl) (by kernel_rfl) ?_
  refine seqQ_norm ?_
  rcases itesome h with ⟨hb_1, h⟩ | ⟨hb_1, h⟩
  · refine Wp.condT (b := ((t0.fKids.length : Int) != r_1_5)) (by kernel_rfl) (by kernel_rfl) hb_1 ?_
    refine Wp.seqN (by kernel_rfl) ?_
    refine Wp.reg tiok mix hc (by kernel_rfl) (ah := none) (rs := [some (.no)]) (kt := [8]) (ko := []) (T' := [(8, .bool false)]) (O' := []) (by kernel_rfl) trivial (by kernel_rfl) (by kernel_rfl) ?_
    refine seqQ_norm ?_
    refine Wp.retN (by kernel_rfl) ?_
    refine seqQ_ret ?_
    obtain rfl := Option.some.inj h
    exact RetQ.ret (fl := [true]) (by kernel_rfl)
  · refine Wp.condF (b := ((t0.fKids.length : Int) != r_1_5)) (by kernel_rfl) (by kernel_rfl) hb_1 ?_
    refine Wp.skipN (by kernel_rfl) ?_
    refine seqQ_norm ?_
    refine Wp.seqN (by kernel_rfl) ?_
    refine Wp.blockN (i := 0) (by kernel_rfl) ?_
    refine Wp.seqN (by kernel_rfl) ?_
    refine Wp.reg tiok mix hc (by kernel_rfl) (ah := none) (rs := [some (.no), some (.no), some (.no), some (.no)]) (kt := [1, 2, 3, 4, 19]) (ko := [1]) (T' := [(1, .int .i64 n1), (2, .int .i64 size2), (3, .bool closed3), (4, .ra 1 0), (19, .bool (t0.fOp == 0))]) (O' := [(1, .box [.int .i64 t0.fOp, .int .i64 t0.fN, .sl (List.map I t0.fType), .sl (List.map GTerm_S t0.fKids)])]) (by kernel_rfl) trivial (by kernel_rfl) (by kernel_rfl) ?_
    refine seqQ_norm ?_
    obtain ⟨fl, hj_13, h⟩ := bsome h
    have hF : Wp Try.prog c (cr (cl (cl (cr (cr B133))))) (spec_l2Node_F3 c t0 size2 closed3 fl) (mkS [(1, .int .i64 n1), (2, .int .i64 size2), (3, .bool closed3), (4, .ra 1 0), (19, .bool (t0.fOp == 0))] [(1, .box [.int .i64 t0.fOp, .int .i64 t0.fN, .sl (List.map I t0.fType), .sl (List.map GTerm_S t0.fKids)])]) := by
      replace h := hj_13
      rcases itesome h with ⟨hb_2, h⟩ | ⟨hb_2, h⟩
      · refine Wp.condT (b := (t0.fOp == 0)) (by kernel_rfl) (by kernel_rfl) hb_2 ?_
        refine Wp.seqN (by kernel_rfl) ?_
        obtain ⟨r_6_4, hr_6_4, h⟩ := bsome h
        refine Wp.reg tiok mix hc (by kernel_rfl) (ah := none) (rs := [some (.no), some (.no), some (.no), some (.no), some (.call (.bool r_6_4) [] 1), some (.no)]) (kt := [2, 3, 4, 28]) (ko := [1]) (T' := [(2, .int .i64 size2), (3, .bool closed3), (4, .ra 1 0), (28, .bool (!r_6_4))]) (O' := [(1, .box [.int .i64 t0.fOp, .int .i64 t0.fN, .sl (List.map I t0.fType), .sl (List.map GTerm_S t0.fKids)])]) (by kernel_rfl) (And.intro (spec_l1In_s _ _ hr_6_4) (And.intro bod_57 (And.intro (Or.inl rfl : ([] : List Nat) = [] ∨ noSh (.bool r_6_4) = true) trivial))) (by kernel_rfl) (by kernel_rfl) ?_
        refine seqQ_norm ?_
        rcases itesome h with ⟨hb_3, h⟩ | ⟨hb_3, h⟩
        · refine Wp.condF (b := (!r_6_4)) (by kernel_rfl) (by kernel_rfl) (nF hb_3) ?_
          refine Wp.skipN (by kernel_rfl) ?_
          obtain rfl := Option.some.inj h
          exact Into.view (fun a w hv => SRx.renL [] hv (by kernel_rfl) (by kernel_rfl) (by kernel_rfl))
        · refine Wp.condT (b := (!r_6_4)) (by kernel_rfl) (by kernel_rfl) (nT hb_3) ?_
          refine Wp.seqN (by kernel_rfl) ?_
          refine Wp.reg tiok mix hc (by kernel_rfl) (ah := none) (rs := [some (.no)]) (kt := [8]) (ko := []) (T' := [(8, .bool false)]) (O' := []) (by kernel_rfl) trivial (by kernel_rfl) (by kernel_rfl) ?_
          refine seqQ_norm ?_
          refine Wp.retN (by kernel_rfl) ?_
          obtain rfl := Option.some.inj h
          exact RetE.ret (fl := [true]) (by kernel_rfl)
      · refine Wp.condF (b := (t0.fOp == 0)) (by kernel_rfl) (by kernel_rfl) hb_2 ?_
        refine Wp.seqN (by kernel_rfl) ?_
        refine Wp.reg tiok mix hc (by kernel_rfl) (ah := none) (rs := [some (.no), some (.no), some (.no), some (.no)]) (kt := [2, 3, 4, 29]) (ko := [1]) (T' := [(2, .int .i64 size2), (3, .bool closed3), (4, .ra 1 0), (29, .bool (t0.fOp == 1))]) (O' := [(1, .box [.int .i64 t0.fOp, .int .i64 t0.fN, .sl (List.map I t0.fType), .sl (List.map GTerm_S t0.fKids)])]) (by kernel_rfl) trivial (by kernel_rfl) (by kernel_rfl) ?_
        refine seqQ_norm ?_
        obtain ⟨fl, hj_12, h⟩ := bsome h
        have hF : Wp Try.prog c (cr (cr (cr (cl (cl (cr (cr B133))))))) (spec_l2Node_F2 c t0 size2 closed3 fl) (mkS [(2, .int .i64 size2), (3, .bool closed3), (4, .ra 1 0), (29, .bool (t0.fOp == 1))] [(1, .box [.int .i64 t0.fOp, .int .i64 t0.fN, .sl (List.map I t0.fType), .sl (List.map GTerm_S t0.fKids)])]) := by
          replace h := hj_12
          rcases itesome h with ⟨hb_4, h⟩ | ⟨hb_4, h⟩
          · refine Wp.condT (b := (t0.fOp == 1)) (by kernel_rfl) (by kernel_rfl) hb_4 ?_
            refine Wp.seqN (by kernel_rfl) ?_
            obtain ⟨r_9_2, hr_9_2, h⟩ := bsome h
            refine Wp.reg tiok mix hc (by kernel_rfl) (ah := none) (rs := [some (.no), some (.no), some (.call (.bool r_9_2) [] 1), some (.no)]) (kt := [2, 3, 4, 36]) (ko := [1]) (T' := [(2, .int .i64 size2), (3, .bool closed3), (4, .ra 1 0), (36, .bool (!r_9_2))]) (O' := [(1, .box [.int .i64 t0.fOp, .int .i64 t0.fN, .sl (List.map I t0.fType), .sl (List.map GTerm_S t0.fKids)])]) (by kernel_rfl) (And.intro (spec_l1In_s _ _ hr_9_2) (And.intro bod_57 (And.intro (Or.inl rfl : ([] : List Nat) = [] ∨ noSh (.bool r_9_2) = true) trivial))) (by kernel_rfl) (by kernel_rfl) ?_
            refine seqQ_norm ?_
            rcases itesome h with ⟨hb_5, h⟩ | ⟨hb_5, h⟩
            · refine Wp.condF (b := (!r_9_2)) (by kernel_rfl) (by kernel_rfl) (nF hb_5) ?_
              refine Wp.skipN (by kernel_rfl) ?_
              obtain rfl := Option.some.inj h
              exact Into.view (fun a w hv => SRx.renL [] hv (by kernel_rfl) (by kernel_rfl) (by kernel_rfl))
            · refine Wp.condT (b := (!r_9_2)) (by kernel_rfl) (by kernel_rfl) (nT hb_5) ?_
              refine Wp.seqN (by kernel_rfl) ?_
              refine Wp.reg tiok mix hc (by kernel_rfl) (ah := none) (rs := [some (.no)]) (kt := [8]) (ko := []) (T' := [(8, .bool false)]) (O' := []) (by kernel_rfl) trivial (by kernel_rfl) (by kernel_rfl) ?_
              refine seqQ_norm ?_
              refine Wp.retN (by kernel_rfl) ?_
              obtain rfl := Option.some.inj h
              exact RetE.ret (fl := [true]) (by kernel_rfl)
          · refine Wp.condF (b := (t0.fOp == 1)) (by kernel_rfl) (by kernel_rfl) hb_4 ?_
            refine Wp.seqN (by kernel_rfl) ?_
            obtain ⟨r_11_2, hr_11_2, h⟩ := bsome h
            refine Wp.reg tiok mix hc (by kernel_rfl) (ah := none) (rs := [some (.no), some (.no), some (.call (.bool r_11_2) [] 1), some (.no)]) (kt := [2, 3, 4, 37]) (ko := [1]) (T' := [(2, .int .i64 size2), (3, .bool closed3), (4, .ra 1 0), (37, .bool r_11_2)]) (O' := [(1, .box [.int .i64 t0.fOp, .int .i64 t0.fN, .sl (List.map I t0.fType), .sl (List.map GTerm_S t0.fKids)])]) (by kernel_rfl) (And.intro (spec_l2Has_s _ _ hr_11_2) (And.intro bod_108 (And.intro (Or.inl rfl : ([] : List Nat) = [] ∨ noSh (.bool r_11_2) = true) trivial))) (by kernel_rfl) (by kernel_rfl) ?_
            refine seqQ_norm ?_
            obtain ⟨fl, hj_11, h⟩ := bsome h
            have hF : Wp Try.prog c (cr (cr (cr (cr (cr (cl (cl (cr (cr B133))))))))) (spec_l2Node_F1 c t0 size2 closed3 fl) (mkS [(2, .int .i64 size2), (3, .bool closed3), (4, .ra 1 0), (37, .bool r_11_2)] [(1, .box [.int .i64 t0.fOp, .int .i64 t0.fN, .sl (List.map I t0.fType), .sl (List.map GTerm_S t0.fKids)])]) := by
              replace h := hj_11
              rcases itesome h with ⟨hb_6, h⟩ | ⟨hb_6, h⟩
              · refine Wp.condT (b := r_11_2) (by kernel_rfl) (by kernel_rfl) hb_6 ?_
                refine Wp.seqN (by kernel_rfl) ?_
                obtain ⟨v_7, hj_8, h⟩ := bsome h
                refine Wp.into (x := .normal) (mkS [(2, .int .i64 size2), (3, .bool closed3), (4, .ra 1 0), (57, .bool v_7)] [(1, .box [.int .i64 t0.fOp, .int .i64 t0.fN, .sl (List.map I t0.fType), .sl (List.map GTerm_S t0.fKids)])]) ?_ ?_
                · replace h := hj_8
                  rcases itesome h with ⟨hb_12_0, h⟩ | ⟨hb_12_0, h⟩
                  · refine Wp.reg tiok mix hc (by kernel_rfl) (ah := none) (rs := [some (.no), some (.no), some (.no), some (.no), some (.no), none, none, none, some (.cond true), some (.no), none, none, none, none, none, none, some (.cond true)]) (kt := [2, 3, 4, 57]) (ko := [1]) (T' := [(2, .int .i64 size2), (3, .bool closed3), (4, .ra 1 0), (57, .bool true)]) (O' := [(1, .box [.int .i64 t0.fOp, .int .i64 t0.fN, .sl (List.map I t0.fType), .sl (List.map GTerm_S t0.fKids)])]) (by kernel_rfl) (And.intro (neF hb_12_0 : (decide (t0.fN ≥ size2)) ≠ false) (And.intro (neF hb_12_0 : (decide (t0.fN ≥ size2)) ≠ false) (And.intro (neF hb_12_0 : (decide (t0.fN ≥ size2)) ≠ false) (And.intro hb_12_0 (And.intro (neF (rfl : true = true) : true ≠ false) (And.intro (neF (rfl : true = true) : true ≠ false) (And.intro (neF (rfl : true = true) : true ≠ false) (And.intro (rfl : true = true) trivial)))))))) (by kernel_rfl) (by kernel_rfl) ?_
                    obtain rfl := Option.some.inj h
                    exact Into.mk
                  · rcases itesome h with ⟨hb_12_1, h⟩ | ⟨hb_12_1, h⟩
                    · refine Wp.reg tiok mix hc (by kernel_rfl) (ah := none) (rs := [some (.no), some (.no), some (.no), some (.no), some (.no), some (.no), some (.no), some (.no), some (.cond false), some (.no), none, none, none, none, none, none, some (.cond true)]) (kt := [2, 3, 4, 57]) (ko := [1]) (T' := [(2, .int .i64 size2), (3, .bool closed3), (4, .ra 1 0), (57, .bool true)]) (O' := [(1, .box [.int .i64 t0.fOp, .int .i64 t0.fN, .sl (List.map I t0.fType), .sl (List.map GTerm_S t0.fKids)])]) (by kernel_rfl) (And.intro hb_12_0 (And.intro hb_12_0 (And.intro hb_12_0 (And.intro hb_12_0 (And.intro (neF hb_12_1 : (decide (t0.fN < (-1))) ≠ false) (And.intro (neF hb_12_1 : (decide (t0.fN < (-1))) ≠ false) (And.intro (neF hb_12_1 : (decide (t0.fN < (-1))) ≠ false) (And.intro hb_12_1 trivial)))))))) (by kernel_rfl) (by kernel_rfl) ?_
                      obtain rfl := Option.some.inj h
                      exact Into.mk
                    · rcases itesome h with ⟨hb_12_2, h⟩ | ⟨hb_12_2, h⟩
                      · refine Wp.reg tiok mix hc (by kernel_rfl) (ah := none) (rs := [some (.no), some (.no), some (.no), some (.no), some (.no), some (.no), some (.no), some (.no), some (.cond false), some (.no), some (.no), some (.no), some (.no), some (.no), some (.no), some (.cond true), some (.cond false)]) (kt := [2, 3, 4, 57]) (ko := [1]) (T' := [(2, .int .i64 size2), (3, .bool closed3), (4, .ra 1 0), (57, .bool (decide (t0.fN < 0)))]) (O' := [(1, .box [.int .i64 t0.fOp, .int .i64 t0.fN, .sl (List.map I t0.fType), .sl (List.map GTerm_S t0.fKids)])]) (by kernel_rfl) (And.intro hb_12_0 (And.intro hb_12_0 (And.intro hb_12_0 (And.intro hb_12_0 (And.intro hb_12_1 (And.intro hb_12_1 (And.intro hb_12_2 (And.intro hb_12_2 (And.intro hb_12_2 (And.intro hb_12_1 (And.intro hb_12_2 (And.intro hb_12_1 trivial)))))))))))) (by kernel_rfl) (by kernel_rfl) ?_
                        obtain rfl := Option.some.inj h
                        exact Into.mk
                      · refine Wp.reg tiok mix hc (by kernel_rfl) (ah := none) (rs := [some (.no), some (.no), some (.no), some (.no), some (.no), some (.no), some (.no), some (.no), some (.cond false), some (.no), some (.no), some (.no), none, none, none, some (.cond false), some (.cond false)]) (kt := [2, 3, 4, 57]) (ko := [1]) (T' := [(2, .int .i64 size2), (3, .bool closed3), (4, .ra 1 0), (57, .bool false)]) (O' := [(1, .box [.int .i64 t0.fOp, .int .i64 t0.fN, .sl (List.map I t0.fType), .sl (List.map GTerm_S t0.fKids)])]) (by kernel_rfl) (And.intro hb_12_0 (And.intro hb_12_0 (And.intro hb_12_0 (And.intro hb_12_0 (And.intro hb_12_1 (And.intro hb_12_1 (And.intro (neT hb_12_2 : closed3 ≠ true) (And.intro (neT hb_12_2 : closed3 ≠ true) (And.intro (neT hb_12_2 : closed3 ≠ true) (And.intro hb_12_1 (And.intro hb_12_2 (And.intro hb_12_1 trivial)))))))))))) (by kernel_rfl) (by kernel_rfl) ?_
                        obtain rfl := Option.some.inj h
                        exact Into.mk
                · clear hj_8
                  refine seqQ_norm ?_
                  rcases itesome h with ⟨hb_9, h⟩ | ⟨hb_9, h⟩
                  · refine Wp.condT (b := v_7) (by kernel_rfl) (by kernel_rfl) hb_9 ?_
                    refine Wp.seqN (by kernel_rfl) ?_
                    refine Wp.reg tiok mix hc (by kernel_rfl) (ah := none) (rs := [some (.no)]) (kt := [8]) (ko := []) (T' := [(8, .bool false)]) (O' := []) (by kernel_rfl) trivial (by kernel_rfl) (by kernel_rfl) ?_
                    refine seqQ_norm ?_
                    refine Wp.retN (by kernel_rfl) ?_
                    obtain rfl := Option.some.inj h
                    exact RetE.ret (fl := [true]) (by kernel_rfl)
                  · refine Wp.condF (b := v_7) (by kernel_rfl) (by kernel_rfl) hb_9 ?_
                    refine Wp.skipN (by kernel_rfl) ?_
                    obtain rfl := Option.some.inj h
                    exact Into.view (fun a w hv => SRx.renL [] hv (by kernel_rfl) (by kernel_rfl) (by kernel_rfl))
              · refine Wp.condF (b := r_11_2) (by kernel_rfl) (by kernel_rfl) hb_6 ?_
                refine Wp.seqN (by kernel_rfl) ?_
                refine Wp.reg tiok mix hc (by kernel_rfl) (ah := none) (rs := [some (.no), some (.no), some (.no)]) (kt := [2, 3, 4, 18]) (ko := [1]) (T' := [(2, .int .i64 size2), (3, .bool closed3), (4, .ra 1 0), (18, .bool (t0.fN != 0))]) (O' := [(1, .box [.int .i64 t0.fOp, .int .i64 t0.fN, .sl (List.map I t0.fType), .sl (List.map GTerm_S t0.fKids)])]) (by kernel_rfl) trivial (by kernel_rfl) (by kernel_rfl) ?_
                refine seqQ_norm ?_
                rcases itesome h with ⟨hb_10, h⟩ | ⟨hb_10, h⟩
                · refine Wp.condT (b := (t0.fN != 0)) (by kernel_rfl) (by kernel_rfl) hb_10 ?_
                  refine Wp.seqN (by kernel_rfl) ?_
                  refine Wp.reg tiok mix hc (by kernel_rfl) (ah := none) (rs := [some (.no)]) (kt := [8]) (ko := []) (T' := [(8, .bool false)]) (O' := []) (by kernel_rfl) trivial (by kernel_rfl) (by kernel_rfl) ?_
                  refine seqQ_norm ?_
                  refine Wp.retN (by kernel_rfl) ?_
                  obtain rfl := Option.some.inj h
                  exact RetE.ret (fl := [true]) (by kernel_rfl)
                · refine Wp.condF (b := (t0.fN != 0)) (by kernel_rfl) (by kernel_rfl) hb_10 ?_
                  refine Wp.skipN (by kernel_rfl) ?_
                  obtain rfl := Option.some.inj h
                  exact Into.view (fun a w hv => SRx.renL [] hv (by kernel_rfl) (by kernel_rfl) (by kernel_rfl))
            rcases fl with ⟨⟩ | r
            · refine Wp.into (x := .normal) (mkS [(2, .int .i64 size2), (3, .bool closed3), (4, .ra 1 0)] [(1, .box [.int .i64 t0.fOp, .int .i64 t0.fN, .sl (List.map I t0.fType), .sl (List.map GTerm_S t0.fKids)])]) hF ?_
              obtain rfl := Option.some.inj h
              exact Into.mk
            · refine Wp.mono hF ?_
              rintro _ _ ⟨rfl, hfin⟩
              obtain rfl := Option.some.inj h
              exact ⟨rfl, hfin⟩
        rcases fl with ⟨⟩ | r
        · refine Wp.into (x := .normal) (mkS [(2, .int .i64 size2), (3, .bool closed3), (4, .ra 1 0)] [(1, .box [.int .i64 t0.fOp, .int .i64 t0.fN, .sl (List.map I t0.fType), .sl (List.map GTerm_S t0.fKids)])]) hF ?_
          obtain rfl := Option.some.inj h
          exact Into.mk
        · refine Wp.mono hF ?_
          rintro _ _ ⟨rfl, hfin⟩
          obtain rfl := Option.some.inj h
          exact ⟨rfl, hfin⟩
    rcases fl with ⟨⟩ | r
    · refine Wp.into (x := .normal) (mkS [(2, .int .i64 size2), (3, .bool closed3), (4, .ra 1 0)] [(1, .box [.int .i64 t0.fOp, .int .i64 t0.fN, .sl (List.map I t0.fType), .sl (List.map GTerm_S t0.fKids)])]) hF ?_
      refine blockQ_norm ?_
      refine seqQ_norm ?_
      refine Wp.seqN (by kernel_rfl) ?_
      refine Wp.seqN (by kernel_rfl) ?_
      obtain ⟨r_14_2, hr_14_2, h⟩ := bsome h
      refine Wp.reg tiok mix hc (by kernel_rfl) (ah := none) (rs := [some (.no), some (.no), some (.call (.bool r_14_2) [] 1), some (.no)]) (kt := [2, 3, 4, 61]) (ko := [1]) (T' := [(2, .int .i64 size2), (3, .bool closed3), (4, .ra 1 0), (61, .bool (!r_14_2))]) (O' := [(1, .box [.int .i64 t0.fOp, .int .i64 t0.fN, .sl (List.map I t0.fType), .sl (List.map GTerm_S t0.fKids)])]) (by kernel_rfl) (And.intro (spec_l2Typed_s _ _ hr_14_2) (And.intro bod_164 (And.intro (Or.inl rfl : ([] : List Nat) = [] ∨ noSh (.bool r_14_2) = true) trivial))) (by kernel_rfl) (by kernel_rfl) ?_
      refine seqQ_norm ?_
      rcases itesome h with ⟨hb_14, h⟩ | ⟨hb_14, h⟩
      · refine Wp.condF (b := (!r_14_2)) (by kernel_rfl) (by kernel_rfl) (nF hb_14) ?_
        refine Wp.skipN (by kernel_rfl) ?_
        refine seqQ_norm ?_
        refine Wp.seqN (by kernel_rfl) ?_
        obtain ⟨v_15, hj_16, h⟩ := bsome h
        refine Wp.into (x := .normal) (mkS [(8, .bool v_15)] []) ?_ ?_
        · replace h := hj_16
          obtain ⟨r_16_2, hr_16_2, h⟩ := bsome h
          rcases itesome h with ⟨hb_16_0, h⟩ | ⟨hb_16_0, h⟩
          · obtain ⟨r_16_8, hr_16_8, h⟩ := bsome h
            refine Wp.reg tiok mix hc (by kernel_rfl) (ah := none) (rs := [some (.no), some (.no), some (.call (.bool r_16_2) [] 1), some (.no), some (.no), some (.no), some (.no), some (.no), some (.call (.bool r_16_8) [] 1), some (.cond true), some (.no)]) (kt := [8]) (ko := []) (T' := [(8, .bool r_16_8)]) (O' := []) (by kernel_rfl) (And.intro (spec_l2Type_s _ _ hr_16_2) (And.intro bod_86 (And.intro (Or.inl rfl : ([] : List Nat) = [] ∨ noSh (.bool r_16_2) = true) (And.intro hb_16_0 (And.intro hb_16_0 (And.intro hb_16_0 (And.intro hb_16_0 (And.intro hb_16_0 (And.intro (spec_l2Graded_s _ _ hr_16_8) (And.intro bod_87 (And.intro (Or.inl rfl : ([] : List Nat) = [] ∨ noSh (.bool r_16_8) = true) (And.intro hb_16_0 trivial)))))))))))) (by kernel_rfl) (by kernel_rfl) ?_
            obtain rfl := Option.some.inj h
            exact Into.mk
          · refine Wp.reg tiok mix hc (by kernel_rfl) (ah := none) (rs := [some (.no), some (.no), some (.call (.bool r_16_2) [] 1), some (.no), none, none, none, none, none, some (.cond false), some (.no)]) (kt := [8]) (ko := []) (T' := [(8, .bool false)]) (O' := []) (by kernel_rfl) (And.intro (spec_l2Type_s _ _ hr_16_2) (And.intro bod_86 (And.intro (Or.inl rfl : ([] : List Nat) = [] ∨ noSh (.bool r_16_2) = true) (And.intro (neT hb_16_0 : r_16_2 ≠ true) (And.intro (neT hb_16_0 : r_16_2 ≠ true) (And.intro (neT hb_16_0 : r_16_2 ≠ true) (And.intro (neT hb_16_0 : r_16_2 ≠ true) (And.intro (neT hb_16_0 : r_16_2 ≠ true) (And.intro hb_16_0 trivial))))))))) (by kernel_rfl) (by kernel_rfl) ?_
            obtain rfl := Option.some.inj h
            exact Into.mk
        · clear hj_16
          refine seqQ_norm ?_
          refine Wp.retN (by kernel_rfl) ?_
          obtain rfl := Option.some.inj h
          exact RetQ.ret (fl := [true]) (by kernel_rfl)
      · refine Wp.condT (b := (!r_14_2)) (by kernel_rfl) (by kernel_rfl) (nT hb_14) ?_
        refine Wp.seqN (by kernel_rfl) ?_
        refine Wp.reg tiok mix hc (by kernel_rfl) (ah := none) (rs := [some (.no), some (.no), some (.eqv (.no) ⟨[(64, .int .i64 (t0.fType.length : Int))], [], []⟩), some (.no), some (.no)]) (kt := [8]) (ko := []) (T' := [(8, .bool ((t0.fType.length : Int) == 0))]) (O' := []) (by kernel_rfl) (And.intro (lenT (d := 64) I t0.fType) trivial) (by kernel_rfl) (by kernel_rfl) ?_
        refine seqQ_norm ?_
        refine Wp.retN (by kernel_rfl) ?_
        refine seqQ_ret ?_
        obtain rfl := Option.some.inj h
        exact RetQ.ret (fl := [true]) (by kernel_rfl)
    · refine Wp.mono hF ?_
      rintro _ _ ⟨rfl, hfin⟩
      refine blockQ_ret ?_
      refine seqQ_ret ?_
      obtain rfl := Option.some.inj h
      exact ⟨.inl rfl, hfin⟩
def spec_l2Adds (p : Int × Int) : Option (Int) :=
  match p with
  | (op0, kid1) =>
    (
      if (op0 == 5) = true then
        some ((kid1 == 1))
      else
        some (false)
    ) >>= fun v_1 =>
    if v_1 = true then
      some 2
    else
      (
        if (op0 == 8) = true then
          if (decide (kid1 > 0)) = true then
            some (true)
          else
            if (op0 == 9) = true then
              some (true)
            else
              if (op0 == 12) = true then
                some ((kid1 == 1))
              else
                some (false)
        else
          if (op0 == 9) = true then
            some (true)
          else
            if (op0 == 12) = true then
              some ((kid1 == 1))
            else
              some (false)
      ) >>= fun v_4 =>
      if v_4 = true then
        some 1
      else
        some 0
def M_spec_l2Adds (p : Int × Int) (r : Int) : Prop :=
  match p with
  | (op0, kid1) => FnSound Try.prog 134 [.int .i64 op0, .int .i64 kid1] (.int .i64 r) []
theorem spec_l2Adds_s : ∀ p r, spec_l2Adds p = some r → M_spec_l2Adds p r := by
  rintro ⟨op0, kid1⟩ r h
  unfold spec_l2Adds at h
  show FnSound Try.prog 134 [.int .i64 op0, .int .i64 kid1] (.int .i64 r) []
  refine FnSound.body0 tiok (fn := Try.f134) (code := B134) (by kernel_rfl) (by kernel_rfl) (by kernel_rfl) (by kernel_rfl) (nt := 31) (by kernel_rfl) (by kernel_rfl) (T := [(0, .int .i64 op0), (1, .int .i64 kid1)]) (O := []) (by kernel_rfl) (by kernel_rfl) (fun c hc => ?_)
  refine Wp.seqN (by kernel_rfl) ?_
  refine Wp.reg tiok mix hc (by kernel_rfl) (ah := none) (rs := [some (.no)]) (kt := [0, 1]) (ko := []) (T' := [(0, .int .i64 op0), (1, .int .i64 kid1)]) (O' := []) (by kernel_rfl) trivial (by kernel_rfl) (by kernel_rfl) ?_
  refine seqQ_norm ?_
  refine Wp.seqN (by kernel_rfl) ?_
  refine Wp.blockN (i := 0) (by kernel_rfl) ?_
  refine Wp.seqN (by kernel_rfl) ?_
  obtain ⟨v_1, hj_2, h⟩ := bsome h
  refine Wp.into (x := .normal) (mkS [(0, .int .i64 op0), (1, .int .i64 kid1), (5, .bool v_1)] []) ?_ ?_
  · replace h := hj_2
    rcases itesome h with ⟨hb_1_0, h⟩ | ⟨hb_1_0, h⟩
    · refine Wp.reg tiok mix hc (by kernel_rfl) (ah := none) (rs := [some (.no), some (.no), some (.no), some (.no), some (.no), some (.cond true), some (.no)]) (kt := [0, 1, 5]) (ko := []) (T' := [(0, .int .i64 op0), (1, .int .i64 kid1), (5, .bool (kid1 == 1))]) (O' := []) (by kernel_rfl) (And.intro hb_1_0 (And.intro hb_1_0 (And.intro hb_1_0 trivial))) (by kernel_rfl) (by kernel_rfl) ?_
      obtain rfl := Option.some.inj h
      exact Into.mk
    · refine Wp.reg tiok mix hc (by kernel_rfl) (ah := none) (rs := [some (.no), some (.no), some (.no), none, none, some (.cond false), some (.no)]) (kt := [0, 1, 5]) (ko := []) (T' := [(0, .int .i64 op0), (1, .int .i64 kid1), (5, .bool false)]) (O' := []) (by kernel_rfl) (And.intro (neT hb_1_0 : (op0 == 5) ≠ true) (And.intro (neT hb_1_0 : (op0 == 5) ≠ true) (And.intro hb_1_0 trivial))) (by kernel_rfl) (by kernel_rfl) ?_
      obtain rfl := Option.some.inj h
      exact Into.mk
  · clear hj_2
    refine seqQ_norm ?_
    rcases itesome h with ⟨hb_3, h⟩ | ⟨hb_3, h⟩
    · refine Wp.condT (b := v_1) (by kernel_rfl) (by kernel_rfl) hb_3 ?_
      refine Wp.seqN (by kernel_rfl) ?_
      refine Wp.reg tiok mix hc (by kernel_rfl) (ah := none) (rs := [some (.no)]) (kt := [4]) (ko := []) (T' := [(4, .int .i64 2)]) (O' := []) (by kernel_rfl) trivial (by kernel_rfl) (by kernel_rfl) ?_
      refine seqQ_norm ?_
      refine Wp.retN (by kernel_rfl) ?_
      refine blockQ_ret ?_
      refine seqQ_ret ?_
      obtain rfl := Option.some.inj h
      exact RetQ.ret (fl := [true]) (by kernel_rfl)
    · refine Wp.condF (b := v_1) (by kernel_rfl) (by kernel_rfl) hb_3 ?_
      refine Wp.seqN (by kernel_rfl) ?_
      obtain ⟨v_4, hj_5, h⟩ := bsome h
      refine Wp.into (x := .normal) (mkS [(12, .bool v_4)] []) ?_ ?_
      · replace h := hj_5
        rcases itesome h with ⟨hb_3_0, h⟩ | ⟨hb_3_0, h⟩
        · rcases itesome h with ⟨hb_3_1, h⟩ | ⟨hb_3_1, h⟩
          · refine Wp.reg tiok mix hc (by kernel_rfl) (ah := none) (rs := [some (.no), some (.no), some (.no), some (.no), some (.no), some (.cond true), some (.no), none, none, some (.cond true), some (.no), none, none, none, none, none, none, some (.cond true), some (.no)]) (kt := [12]) (ko := []) (T' := [(12, .bool true)]) (O' := []) (by kernel_rfl) (And.intro hb_3_0 (And.intro hb_3_0 (And.intro hb_3_0 (And.intro (neF hb_3_1 : (decide (kid1 > 0)) ≠ false) (And.intro (neF hb_3_1 : (decide (kid1 > 0)) ≠ false) (And.intro hb_3_1 (And.intro (neF (rfl : true = true) : true ≠ false) (And.intro (neF (rfl : true = true) : true ≠ false) (And.intro (neF (rfl : true = true) : true ≠ false) (And.intro (neF (rfl : true = true) : true ≠ false) (And.intro (rfl : true = true) trivial))))))))))) (by kernel_rfl) (by kernel_rfl) ?_
            obtain rfl := Option.some.inj h
            exact Into.mk
          · rcases itesome h with ⟨hb_3_2, h⟩ | ⟨hb_3_2, h⟩
            · refine Wp.reg tiok mix hc (by kernel_rfl) (ah := none) (rs := [some (.no), some (.no), some (.no), some (.no), some (.no), some (.cond true), some (.no), some (.no), some (.no), some (.cond false), some (.no), none, none, none, none, none, none, some (.cond true), some (.no)]) (kt := [12]) (ko := []) (T' := [(12, .bool true)]) (O' := []) (by kernel_rfl) (And.intro hb_3_0 (And.intro hb_3_0 (And.intro hb_3_0 (And.intro hb_3_1 (And.intro hb_3_1 (And.intro hb_3_1 (And.intro (neF hb_3_2 : (op0 == 9) ≠ false) (And.intro (neF hb_3_2 : (op0 == 9) ≠ false) (And.intro (neF hb_3_2 : (op0 == 9) ≠ false) (And.intro (neF hb_3_2 : (op0 == 9) ≠ false) (And.intro hb_3_2 trivial))))))))))) (by kernel_rfl) (by kernel_rfl) ?_
              obtain rfl := Option.some.inj h
              exact Into.mk
            · rcases itesome h with ⟨hb_3_3, h⟩ | ⟨hb_3_3, h⟩
              · refine Wp.reg tiok mix hc (by kernel_rfl) (ah := none) (rs := [some (.no), some (.no), some (.no), some (.no), some (.no), some (.cond true), some (.no), some (.no), some (.no), some (.cond false), some (.no), some (.no), some (.no), some (.no), some (.no), some (.no), some (.cond true), some (.cond false), some (.no)]) (kt := [12]) (ko := []) (T' := [(12, .bool (kid1 == 1))]) (O' := []) (by kernel_rfl) (And.intro hb_3_0 (And.intro hb_3_0 (And.intro hb_3_0 (And.intro hb_3_1 (And.intro hb_3_1 (And.intro hb_3_1 (And.intro hb_3_2 (And.intro hb_3_2 (And.intro hb_3_2 (And.intro hb_3_3 (And.intro hb_3_3 (And.intro hb_3_2 (And.intro hb_3_3 (And.intro hb_3_2 trivial)))))))))))))) (by kernel_rfl) (by kernel_rfl) ?_
                obtain rfl := Option.some.inj h
                exact Into.mk
              · refine Wp.reg tiok mix hc (by kernel_rfl) (ah := none) (rs := [some (.no), some (.no), some (.no), some (.no), some (.no), some (.cond true), some (.no), some (.no), some (.no), some (.cond false), some (.no), some (.no), some (.no), some (.no), none, none, some (.cond false), some (.cond false), some (.no)]) (kt := [12]) (ko := []) (T' := [(12, .bool false)]) (O' := []) (by kernel_rfl) (And.intro hb_3_0 (And.intro hb_3_0 (And.intro hb_3_0 (And.intro hb_3_1 (And.intro hb_3_1 (And.intro hb_3_1 (And.intro hb_3_2 (And.intro hb_3_2 (And.intro hb_3_2 (And.intro (neT hb_3_3 : (op0 == 12) ≠ true) (And.intro (neT hb_3_3 : (op0 == 12) ≠ true) (And.intro hb_3_2 (And.intro hb_3_3 (And.intro hb_3_2 trivial)))))))))))))) (by kernel_rfl) (by kernel_rfl) ?_
                obtain rfl := Option.some.inj h
                exact Into.mk
        · rcases itesome h with ⟨hb_3_1, h⟩ | ⟨hb_3_1, h⟩
          · refine Wp.reg tiok mix hc (by kernel_rfl) (ah := none) (rs := [some (.no), some (.no), some (.no), none, none, some (.cond false), some (.no), some (.no), some (.no), some (.cond false), some (.no), none, none, none, none, none, none, some (.cond true), some (.no)]) (kt := [12]) (ko := []) (T' := [(12, .bool true)]) (O' := []) (by kernel_rfl) (And.intro (neT hb_3_0 : (op0 == 8) ≠ true) (And.intro (neT hb_3_0 : (op0 == 8) ≠ true) (And.intro hb_3_0 (And.intro (rfl : false = false) (And.intro (rfl : false = false) (And.intro (rfl : false = false) (And.intro (neF hb_3_1 : (op0 == 9) ≠ false) (And.intro (neF hb_3_1 : (op0 == 9) ≠ false) (And.intro (neF hb_3_1 : (op0 == 9) ≠ false) (And.intro (neF hb_3_1 : (op0 == 9) ≠ false) (And.intro hb_3_1 trivial))))))))))) (by kernel_rfl) (by kernel_rfl) ?_
            obtain rfl := Option.some.inj h
            exact Into.mk
          · rcases itesome h with ⟨hb_3_2, h⟩ | ⟨hb_3_2, h⟩
            · refine Wp.reg tiok mix hc (by kernel_rfl) (ah := none) (rs := [some (.no), some (.no), some (.no), none, none, some (.cond false), some (.no), some (.no), some (.no), some (.cond false), some (.no), some (.no), some (.no), some (.no), some (.no), some (.no), some (.cond true), some (.cond false), some (.no)]) (kt := [12]) (ko := []) (T' := [(12, .bool (kid1 == 1))]) (O' := []) (by kernel_rfl) (And.intro (neT hb_3_0 : (op0 == 8) ≠ true) (And.intro (neT hb_3_0 : (op0 == 8) ≠ true) (And.intro hb_3_0 (And.intro (rfl : false = false) (And.intro (rfl : false = false) (And.intro (rfl : false = false) (And.intro hb_3_1 (And.intro hb_3_1 (And.intro hb_3_1 (And.intro hb_3_2 (And.intro hb_3_2 (And.intro hb_3_1 (And.intro hb_3_2 (And.intro hb_3_1 trivial)))))))))))))) (by kernel_rfl) (by kernel_rfl) ?_
              obtain rfl := Option.some.inj h
              exact Into.mk
            · refine Wp.reg tiok mix hc (by kernel_rfl) (ah := none) (rs := [some (.no), some (.no), some (.no), none, none, some (.cond false), some (.no), some (.no), some (.no), some (.cond false), some (.no), some (.no), some (.no), some (.no), none, none, some (.cond false), some (.cond false), some (.no)]) (kt := [12]) (ko := []) (T' := [(12, .bool false)]) (O' := []) (by kernel_rfl) (And.intro (neT hb_3_0 : (op0 == 8) ≠ true) (And.intro (neT hb_3_0 : (op0 == 8) ≠ true) (And.intro hb_3_0 (And.intro (rfl : false = false) (And.intro (rfl : false = false) (And.intro (rfl : false = false) (And.intro hb_3_1 (And.intro hb_3_1 (And.intro hb_3_1 (And.intro (neT hb_3_2 : (op0 == 12) ≠ true) (And.intro (neT hb_3_2 : (op0 == 12) ≠ true) (And.intro hb_3_1 (And.intro hb_3_2 (And.intro hb_3_1 trivial)))))))))))))) (by kernel_rfl) (by kernel_rfl) ?_
              obtain rfl := Option.some.inj h
              exact Into.mk
      · clear hj_5
        refine seqQ_norm ?_
        rcases itesome h with ⟨hb_6, h⟩ | ⟨hb_6, h⟩
        · refine Wp.condT (b := v_4) (by kernel_rfl) (by kernel_rfl) hb_6 ?_
          refine Wp.seqN (by kernel_rfl) ?_
          refine Wp.reg tiok mix hc (by kernel_rfl) (ah := none) (rs := [some (.no)]) (kt := [4]) (ko := []) (T' := [(4, .int .i64 1)]) (O' := []) (by kernel_rfl) trivial (by kernel_rfl) (by kernel_rfl) ?_
          refine seqQ_norm ?_
          refine Wp.retN (by kernel_rfl) ?_
          refine blockQ_ret ?_
          refine seqQ_ret ?_
          obtain rfl := Option.some.inj h
          exact RetQ.ret (fl := [true]) (by kernel_rfl)
        · refine Wp.condF (b := v_4) (by kernel_rfl) (by kernel_rfl) hb_6 ?_
          refine Wp.skipN (by kernel_rfl) ?_
          refine blockQ_norm ?_
          refine seqQ_norm ?_
          refine Wp.seqN (by kernel_rfl) ?_
          refine Wp.reg tiok mix hc (by kernel_rfl) (ah := none) (rs := [some (.no)]) (kt := [4]) (ko := []) (T' := [(4, .int .i64 0)]) (O' := []) (by kernel_rfl) trivial (by kernel_rfl) (by kernel_rfl) ?_
          refine seqQ_norm ?_
          refine Wp.retN (by kernel_rfl) ?_
          obtain rfl := Option.some.inj h
          exact RetQ.ret (fl := [true]) (by kernel_rfl)
def spec_l2Term_F1 (c : Ctx) : (Unit) ⊕ (Bool) → Exit → AState → Prop
  | .inl _ => Into c (.exit 0) (mkS [] [])
  | .inr r => RetE TIx Try.f85 [] (.bool r)
mutual
def spec_l2Term (p : GTerm × Int × Int × Bool) : Option (Bool) :=
  match p with
  | (t0, n1, size2, closed3) =>
    (spec_l2Node (t0, n1, size2, closed3)) >>= fun r_1_4 =>
    if r_1_4 = true then
      (spec_l2Term_l0 (t0, n1, size2, closed3, 0)) >>= fun fl => match fl with
      | .inl () =>
        some true
      | .inr r =>
        some r
    else
      some false
  partial_fixpoint
def spec_l2Term_l0 (p : GTerm × Int × Int × Bool × Int) : Option ((Unit) ⊕ (Bool)) :=
  match p with
  | (t0, n1, size2, closed3, k_4) =>
    if (decide (k_4 < (t0.fKids.length : Int))) = true then
      (idx t0.fKids k_4) >>= fun e_6_3 =>
      (spec_l2Adds (t0.fOp, k_4)) >>= fun r_6_9 =>
      (spec_l2Term (e_6_3, (wr (n1 + r_6_9)), size2, closed3)) >>= fun r_6_13 =>
      if r_6_13 = true then
        spec_l2Term_l0 (t0, n1, size2, closed3, (wr (k_4 + 1)))
      else
        some (.inr false)
    else
      some (.inl ())
  partial_fixpoint
end
def M_spec_l2Term (p : GTerm × Int × Int × Bool) (r : Bool) : Prop :=
  match p with
  | (t0, n1, size2, closed3) => FnSound Try.prog 85 [.agg [.int .i64 t0.fOp, .int .i64 t0.fN, .sl (List.map I t0.fType), .sl (List.map GTerm_S t0.fKids)], .int .i64 n1, .int .i64 size2, .bool closed3] (.bool r) []
def M_spec_l2Term_l0 (p : GTerm × Int × Int × Bool × Int) (fl : (Unit) ⊕ (Bool)) : Prop :=
  match p with
  | (t0, n1, size2, closed3, k_4) => ∀ c : Ctx, c.nt = 38 → WpL Try.prog c (cl (cl (cr (cl (cr (cr B85)))))) (spec_l2Term_F1 c fl) (mkS [(1, .int .i64 n1), (2, .int .i64 size2), (3, .bool closed3), (4, .ra 1 0), (9, .int .i64 k_4)] [(1, .box [.int .i64 t0.fOp, .int .i64 t0.fN, .sl (List.map I t0.fType), .sl (List.map GTerm_S t0.fKids)])])
theorem spec_l2Term_all : (∀ p r, spec_l2Term p = some r → M_spec_l2Term p r) ∧ (∀ p r, spec_l2Term_l0 p = some r → M_spec_l2Term_l0 p r) := by
  refine spec_l2Term.mutual_partial_correctness M_spec_l2Term M_spec_l2Term_l0 ?_ ?_
  · rintro spec_l2Term_l0_f spec_l2Term_l0_ih ⟨t0, n1, size2, closed3⟩ r h
    show FnSound Try.prog 85 [.agg [.int .i64 t0.fOp, .int .i64 t0.fN, .sl (List.map I t0.fType), .sl (List.map GTerm_S t0.fKids)], .int .i64 n1, .int .i64 size2, .bool closed3] (.bool r) []
    refine FnSound.body0 tiok (fn := Try.f85) (code := B85) (by kernel_rfl) (by kernel_rfl) (by kernel_rfl) (by kernel_rfl) (nt := 38) (by kernel_rfl) (by kernel_rfl) (T := [(0, .agg [.int .i64 t0.fOp, .int .i64 t0.fN, .sl (List.map I t0.fType), .sl (List.map GTerm_S t0.fKids)]), (1, .int .i64 n1), (2, .int .i64 size2), (3, .bool closed3)]) (O := []) (by kernel_rfl) (by kernel_rfl) (fun c hc => ?_)
    refine Wp.seqN (by kernel_rfl) ?_
    refine Wp.reg tiok mix hc (by kernel_rfl) (ah := none) (rs := [some (.new 1), some (.no)]) (kt := [1, 2, 3, 4]) (ko := [1]) (T' := [(1, .int .i64 n1), (2, .int .i64 size2), (3, .bool closed3), (4, .ra 1 0)]) (O' := [(1, .box [.int .i64 t0.fOp, .int .i64 t0.fN, .sl (List.map I t0.fType), .sl (List.map GTerm_S t0.fKids)])]) (by kernel_rfl) trivial (by kernel_rfl) (by kernel_rfl) ?_
    refine seqQ_norm ?_
    refine Wp.seqN (by kernel_rfl) ?_
    refine Wp.seqN (by kernel_rfl) ?_
    obtain ⟨r_1_4, hr_1_4, h⟩ := bsome h
    refine Wp.reg tiok mix hc (by kernel_rfl) (ah := none) (rs := [some (.no), some (.no), some (.no), some (.no), some (.call (.bool r_1_4) [] 1), some (.no)]) (kt := [1, 2, 3, 4, 15]) (ko := [1]) (T' := [(1, .int .i64 n1), (2, .int .i64 size2), (3, .bool closed3), (4, .ra 1 0), (15, .bool (!r_1_4))]) (O' := [(1, .box [.int .i64 t0.fOp, .int .i64 t0.fN, .sl (List.map I t0.fType), .sl (List.map GTerm_S t0.fKids)])]) (by kernel_rfl) (And.intro (spec_l2Node_s _ _ hr_1_4) (And.intro bod_133 (And.intro (Or.inl rfl : ([] : List Nat) = [] ∨ noSh (.bool r_1_4) = true) trivial))) (by kernel_rfl) (by kernel_rfl) ?_
    refine seqQ_norm ?_
    rcases itesome h with ⟨hb_1, h⟩ | ⟨hb_1, h⟩
    · refine Wp.condF (b := (!r_1_4)) (by kernel_rfl) (by kernel_rfl) (nF hb_1) ?_
      refine Wp.skipN (by kernel_rfl) ?_
      refine seqQ_norm ?_
      refine Wp.seqN (by kernel_rfl) ?_
      refine Wp.seqN (by kernel_rfl) ?_
      refine Wp.reg tiok mix hc (by kernel_rfl) (ah := none) (rs := [some (.no)]) (kt := [1, 2, 3, 4, 9]) (ko := [1]) (T' := [(1, .int .i64 n1), (2, .int .i64 size2), (3, .bool closed3), (4, .ra 1 0), (9, .int .i64 0)]) (O' := [(1, .box [.int .i64 t0.fOp, .int .i64 t0.fN, .sl (List.map I t0.fType), .sl (List.map GTerm_S t0.fKids)])]) (by kernel_rfl) trivial (by kernel_rfl) (by kernel_rfl) ?_
      refine seqQ_norm ?_
      refine Wp.blockN (i := 0) (by kernel_rfl) ?_
      obtain ⟨fl, hl_7, h⟩ := bsome h
      have hL := spec_l2Term_l0_ih _ _ hl_7 c hc
      refine Wp.loopN (by kernel_rfl) ?_
      rcases fl with ⟨⟩ | r
      · refine WpL.into (e := (.exit 0)) (mkS [] []) hL ?_
        refine blockQ_hit ?_
        refine seqQ_norm ?_
        refine Wp.seqN (by kernel_rfl) ?_
        refine Wp.reg tiok mix hc (by kernel_rfl) (ah := none) (rs := [some (.no)]) (kt := [8]) (ko := []) (T' := [(8, .bool true)]) (O' := []) (by kernel_rfl) trivial (by kernel_rfl) (by kernel_rfl) ?_
        refine seqQ_norm ?_
        refine Wp.retN (by kernel_rfl) ?_
        obtain rfl := Option.some.inj h
        exact RetQ.ret (fl := [true]) (by kernel_rfl)
      · refine WpL.mono hL ?_
        rintro _ _ ⟨rfl, hfin⟩
        refine blockQ_ret ?_
        refine seqQ_ret ?_
        obtain rfl := Option.some.inj h
        exact ⟨.inl rfl, hfin⟩
    · refine Wp.condT (b := (!r_1_4)) (by kernel_rfl) (by kernel_rfl) (nT hb_1) ?_
      refine Wp.seqN (by kernel_rfl) ?_
      refine Wp.reg tiok mix hc (by kernel_rfl) (ah := none) (rs := [some (.no)]) (kt := [8]) (ko := []) (T' := [(8, .bool false)]) (O' := []) (by kernel_rfl) trivial (by kernel_rfl) (by kernel_rfl) ?_
      refine seqQ_norm ?_
      refine Wp.retN (by kernel_rfl) ?_
      refine seqQ_ret ?_
      obtain rfl := Option.some.inj h
      exact RetQ.ret (fl := [true]) (by kernel_rfl)
  · rintro spec_l2Term_f spec_l2Term_l0_f spec_l2Term_ih spec_l2Term_l0_ih ⟨t0, n1, size2, closed3, k_4⟩ r h
    intro c hc
    show WpL Try.prog c (cl (cl (cr (cl (cr (cr B85)))))) (spec_l2Term_F1 c r) (mkS [(1, .int .i64 n1), (2, .int .i64 size2), (3, .bool closed3), (4, .ra 1 0), (9, .int .i64 k_4)] [(1, .box [.int .i64 t0.fOp, .int .i64 t0.fN, .sl (List.map I t0.fType), .sl (List.map GTerm_S t0.fKids)])])
    refine WpL.step ?_
    refine Wp.seqN (by kernel_rfl) ?_
    refine Wp.seqN (by kernel_rfl) ?_
    refine Wp.reg tiok mix hc (by kernel_rfl) (ah := none) (rs := [some (.no), some (.no), some (.no), some (.eqv (.no) ⟨[(19, .int .i64 (t0.fKids.length : Int))], [], []⟩), some (.no)]) (kt := [1, 2, 3, 4, 9, 20]) (ko := [1]) (T' := [(1, .int .i64 n1), (2, .int .i64 size2), (3, .bool closed3), (4, .ra 1 0), (9, .int .i64 k_4), (20, .bool (decide (k_4 < (t0.fKids.length : Int))))]) (O' := [(1, .box [.int .i64 t0.fOp, .int .i64 t0.fN, .sl (List.map I t0.fType), .sl (List.map GTerm_S t0.fKids)])]) (by kernel_rfl) (And.intro (lenT (d := 19) GTerm_S t0.fKids) trivial) (by kernel_rfl) (by kernel_rfl) ?_
    refine seqQ_norm ?_
    rcases itesome h with ⟨hb_5, h⟩ | ⟨hb_5, h⟩
    · refine Wp.condT (b := (decide (k_4 < (t0.fKids.length : Int)))) (by kernel_rfl) (by kernel_rfl) hb_5 ?_
      refine Wp.skipN (by kernel_rfl) ?_
      refine seqQ_norm ?_
      refine Wp.seqN (by kernel_rfl) ?_
      refine Wp.blockN (i := 1) (by kernel_rfl) ?_
      refine Wp.seqN (by kernel_rfl) ?_
      obtain ⟨e_6_3, hi_6_3, h⟩ := bsome h
      obtain ⟨r_6_9, hr_6_9, h⟩ := bsome h
      obtain ⟨r_6_13, hr_6_13, h⟩ := bsome h
      refine Wp.reg tiok mix hc (by kernel_rfl) (ah := (some [[], [0], [], [0, 1, 2], [0, 1, 2, 3], [], [], [6], [], [6, 7, 8], [5, 6, 7, 8, 9], [], [], [0, 1, 2, 3, 4, 5, 6, 7, 8, 9, 10, 11, 12], [0, 1, 2, 3, 4, 5, 6, 7, 8, 9, 10, 11, 12, 13]])) (rs := [some (.no), some (.no), some (.no), some (.el (.agg [.int .i64 e_6_3.fOp, .int .i64 e_6_3.fN, .sl (List.map I e_6_3.fType), .sl (List.map GTerm_S e_6_3.fKids)])), some (.no), some (.no), some (.no), some (.no), some (.no), some (.call (.int .i64 r_6_9) [] 1), some (.no), some (.no), some (.no), some (.call (.bool r_6_13) [] 1), some (.no)]) (kt := [1, 2, 3, 4, 9, 37]) (ko := [1]) (T' := [(1, .int .i64 n1), (2, .int .i64 size2), (3, .bool closed3), (4, .ra 1 0), (9, .int .i64 k_4), (37, .bool (!r_6_13))]) (O' := [(1, .box [.int .i64 t0.fOp, .int .i64 t0.fN, .sl (List.map I t0.fType), .sl (List.map GTerm_S t0.fKids)])]) (by kernel_rfl) (And.intro (idx_sl (enc := GTerm_S) (x := .agg [.int .i64 e_6_3.fOp, .int .i64 e_6_3.fN, .sl (List.map I e_6_3.fType), .sl (List.map GTerm_S e_6_3.fKids)]) hi_6_3 (eq_GTerm_S e_6_3)) (And.intro (spec_l2Adds_s _ _ hr_6_9) (And.intro bod_134 (And.intro (Or.inl rfl : ([] : List Nat) = [] ∨ noSh (.int .i64 r_6_9) = true) (And.intro (spec_l2Term_ih _ _ hr_6_13) (And.intro bod_85 (And.intro (Or.inl rfl : ([] : List Nat) = [] ∨ noSh (.bool r_6_13) = true) trivial))))))) (by kernel_rfl) (by kernel_rfl) ?_
      refine seqQ_norm ?_
      rcases itesome h with ⟨hb_6, h⟩ | ⟨hb_6, h⟩
      · refine Wp.condF (b := (!r_6_13)) (by kernel_rfl) (by kernel_rfl) (nF hb_6) ?_
        refine Wp.skipN (by kernel_rfl) ?_
        refine blockQ_norm ?_
        refine seqQ_norm ?_
        refine Wp.reg tiok mix hc (by kernel_rfl) (ah := none) (rs := [some (.no), some (.no), some (.no)]) (kt := [1, 2, 3, 4, 9]) (ko := [1]) (T' := [(1, .int .i64 n1), (2, .int .i64 size2), (3, .bool closed3), (4, .ra 1 0), (9, .int .i64 (wr (k_4 + 1)))]) (O' := [(1, .box [.int .i64 t0.fOp, .int .i64 t0.fN, .sl (List.map I t0.fType), .sl (List.map GTerm_S t0.fKids)])]) (by kernel_rfl) trivial (by kernel_rfl) (by kernel_rfl) ?_
        refine loopQ_norm ?_
        exact (spec_l2Term_l0_ih _ _ h c hc)
      · refine Wp.condT (b := (!r_6_13)) (by kernel_rfl) (by kernel_rfl) (nT hb_6) ?_
        refine Wp.seqN (by kernel_rfl) ?_
        refine Wp.reg tiok mix hc (by kernel_rfl) (ah := none) (rs := [some (.no)]) (kt := [8]) (ko := []) (T' := [(8, .bool false)]) (O' := []) (by kernel_rfl) trivial (by kernel_rfl) (by kernel_rfl) ?_
        refine seqQ_norm ?_
        refine Wp.retN (by kernel_rfl) ?_
        refine blockQ_ret ?_
        refine seqQ_ret ?_
        refine loopQ_ret ?_
        obtain rfl := Option.some.inj h
        exact RetE.ret (fl := [true]) (by kernel_rfl)
    · refine Wp.condF (b := (decide (k_4 < (t0.fKids.length : Int)))) (by kernel_rfl) (by kernel_rfl) hb_5 ?_
      refine Wp.exitN (i := 0) (by kernel_rfl) ?_
      refine seqQ_exit ?_
      refine loopQ_exit ?_
      obtain rfl := Option.some.inj h
      exact Into.view (fun a w hv => SRx.renL [] hv (by kernel_rfl) (by kernel_rfl) (by kernel_rfl))
theorem spec_l2Term_s : ∀ p r, spec_l2Term p = some r → M_spec_l2Term p r := spec_l2Term_all.1
theorem spec_l2Term_l0_s : ∀ p r, spec_l2Term_l0 p = some r → M_spec_l2Term_l0 p r := spec_l2Term_all.2
def spec_IsWritten (t0 : GTerm) : Option (Bool) :=
    (
      (spec_l2Left (t0, 400)) >>= fun r_1_1 =>
      if (decide (r_1_1 ≥ 0)) = true then
        (spec_l2Term (t0, 8, 16, false)) >>= fun r_1_5 =>
        some (r_1_5)
      else
        some (false)
    ) >>= fun v_1 =>
    some v_1
def M_spec_IsWritten (t0 : GTerm) (r : Bool) : Prop :=
  FnSound Try.prog 106 [.agg [.int .i64 t0.fOp, .int .i64 t0.fN, .sl (List.map I t0.fType), .sl (List.map GTerm_S t0.fKids)]] (.bool r) []
theorem spec_IsWritten_s : ∀ p r, spec_IsWritten p = some r → M_spec_IsWritten p r := by
  rintro t0 r h
  unfold spec_IsWritten at h
  show FnSound Try.prog 106 [.agg [.int .i64 t0.fOp, .int .i64 t0.fN, .sl (List.map I t0.fType), .sl (List.map GTerm_S t0.fKids)]] (.bool r) []
  refine FnSound.body0 tiok (fn := Try.f106) (code := B106) (by kernel_rfl) (by kernel_rfl) (by kernel_rfl) (by kernel_rfl) (nt := 10) (by kernel_rfl) (by kernel_rfl) (T := [(0, .agg [.int .i64 t0.fOp, .int .i64 t0.fN, .sl (List.map I t0.fType), .sl (List.map GTerm_S t0.fKids)])]) (O := []) (by kernel_rfl) (by kernel_rfl) (fun c hc => ?_)
  refine Wp.seqN (by kernel_rfl) ?_
  refine Wp.reg tiok mix hc (by kernel_rfl) (ah := none) (rs := [some (.new 1), some (.no)]) (kt := [1]) (ko := [1]) (T' := [(1, .ra 1 0)]) (O' := [(1, .box [.int .i64 t0.fOp, .int .i64 t0.fN, .sl (List.map I t0.fType), .sl (List.map GTerm_S t0.fKids)])]) (by kernel_rfl) trivial (by kernel_rfl) (by kernel_rfl) ?_
  refine seqQ_norm ?_
  refine Wp.seqN (by kernel_rfl) ?_
  obtain ⟨v_1, hj_2, h⟩ := bsome h
  refine Wp.into (x := .normal) (mkS [(2, .bool v_1)] []) ?_ ?_
  · replace h := hj_2
    obtain ⟨r_1_1, hr_1_1, h⟩ := bsome h
    rcases itesome h with ⟨hb_1_0, h⟩ | ⟨hb_1_0, h⟩
    · obtain ⟨r_1_5, hr_1_5, h⟩ := bsome h
      refine Wp.reg tiok mix hc (by kernel_rfl) (ah := none) (rs := [some (.no), some (.call (.int .i64 r_1_1) [] 1), some (.no), some (.no), some (.no), some (.call (.bool r_1_5) [] 1), some (.cond true), some (.no)]) (kt := [2]) (ko := []) (T' := [(2, .bool r_1_5)]) (O' := []) (by kernel_rfl) (And.intro (spec_l2Left_s _ _ hr_1_1) (And.intro bod_84 (And.intro (Or.inl rfl : ([] : List Nat) = [] ∨ noSh (.int .i64 r_1_1) = true) (And.intro hb_1_0 (And.intro hb_1_0 (And.intro (spec_l2Term_s _ _ hr_1_5) (And.intro bod_85 (And.intro (Or.inl rfl : ([] : List Nat) = [] ∨ noSh (.bool r_1_5) = true) (And.intro hb_1_0 trivial))))))))) (by kernel_rfl) (by kernel_rfl) ?_
      obtain rfl := Option.some.inj h
      exact Into.mk
    · refine Wp.reg tiok mix hc (by kernel_rfl) (ah := none) (rs := [some (.no), some (.call (.int .i64 r_1_1) [] 1), some (.no), some (.no), none, none, some (.cond false), some (.no)]) (kt := [2]) (ko := []) (T' := [(2, .bool false)]) (O' := []) (by kernel_rfl) (And.intro (spec_l2Left_s _ _ hr_1_1) (And.intro bod_84 (And.intro (Or.inl rfl : ([] : List Nat) = [] ∨ noSh (.int .i64 r_1_1) = true) (And.intro (neT hb_1_0 : (decide (r_1_1 ≥ 0)) ≠ true) (And.intro (neT hb_1_0 : (decide (r_1_1 ≥ 0)) ≠ true) (And.intro hb_1_0 trivial)))))) (by kernel_rfl) (by kernel_rfl) ?_
      obtain rfl := Option.some.inj h
      exact Into.mk
  · clear hj_2
    refine seqQ_norm ?_
    refine Wp.retN (by kernel_rfl) ?_
    obtain rfl := Option.some.inj h
    exact RetQ.ret (fl := [true]) (by kernel_rfl)
def spec_l9Count_F1 (c : Ctx) (t0 : GTerm) : Int → Exit → AState → Prop
  | n_16 => Into c (.exit 0) (mkS [(1, .ra 1 0), (3, .int .i64 n_16)] [(1, .box [.int .i64 t0.fOp, .int .i64 t0.fN, .sl (List.map I t0.fType), .sl (List.map GTerm_S t0.fKids)])])
def spec_l9Count_F2 (c : Ctx) : Int → Exit → AState → Prop
  | n_22 => Into c (.exit 2) (mkS [(3, .int .i64 n_22)] [])
def spec_l9Count_l0 (p : GTerm × Int × Int) : Option (Int) :=
  match p with
  | (t0, n_10, i_11) =>
    if (decide (i_11 < (t0.fType.length : Int))) = true then
      (idx t0.fType i_11) >>= fun e_7_3 =>
      (
        if (decide (e_7_3 ≥ 35)) = true then
          some ((wr (n_10 + 1)))
        else
          some (n_10)
      ) >>= fun n_14 =>
      spec_l9Count_l0 (t0, n_14, (wr (i_11 + 1)))
    else
      some (n_10)
  partial_fixpoint
def M_spec_l9Count_l0 (p : GTerm × Int × Int) (fl : Int) : Prop :=
  match p with
  | (t0, n_10, i_11) => ∀ c : Ctx, c.nt = 47 → WpL Try.prog c (cl (cl (cr (cl (cr (cr (cr B107))))))) (spec_l9Count_F1 c t0 fl) (mkS [(1, .ra 1 0), (3, .int .i64 n_10), (4, .int .i64 i_11)] [(1, .box [.int .i64 t0.fOp, .int .i64 t0.fN, .sl (List.map I t0.fType), .sl (List.map GTerm_S t0.fKids)])])
theorem spec_l9Count_l0_s : ∀ p r, spec_l9Count_l0 p = some r → M_spec_l9Count_l0 p r := by
  refine spec_l9Count_l0.partial_correctness M_spec_l9Count_l0 ?_
  rintro spec_l9Count_l0_f spec_l9Count_l0_ih ⟨t0, n_10, i_11⟩ r h
  intro c hc
  show WpL Try.prog c (cl (cl (cr (cl (cr (cr (cr B107))))))) (spec_l9Count_F1 c t0 r) (mkS [(1, .ra 1 0), (3, .int .i64 n_10), (4, .int .i64 i_11)] [(1, .box [.int .i64 t0.fOp, .int .i64 t0.fN, .sl (List.map I t0.fType), .sl (List.map GTerm_S t0.fKids)])])
  refine WpL.step ?_
  refine Wp.seqN (by kernel_rfl) ?_
  refine Wp.seqN (by kernel_rfl) ?_
  refine Wp.reg tiok mix hc (by kernel_rfl) (ah := none) (rs := [some (.no), some (.no), some (.no), some (.eqv (.no) ⟨[(19, .int .i64 (t0.fType.length : Int))], [], []⟩), some (.no)]) (kt := [1, 3, 4, 20]) (ko := [1]) (T' := [(1, .ra 1 0), (3, .int .i64 n_10), (4, .int .i64 i_11), (20, .bool (decide (i_11 < (t0.fType.length : Int))))]) (O' := [(1, .box [.int .i64 t0.fOp, .int .i64 t0.fN, .sl (List.map I t0.fType), .sl (List.map GTerm_S t0.fKids)])]) (by kernel_rfl) (And.intro (lenT (d := 19) I t0.fType) trivial) (by kernel_rfl) (by kernel_rfl) ?_
  refine seqQ_norm ?_
  rcases itesome h with ⟨hb_12, h⟩ | ⟨hb_12, h⟩
  · refine Wp.condT (b := (decide (i_11 < (t0.fType.length : Int)))) (by kernel_rfl) (by kernel_rfl) hb_12 ?_
    refine Wp.skipN (by kernel_rfl) ?_
    refine seqQ_norm ?_
    refine Wp.seqN (by kernel_rfl) ?_
    refine Wp.blockN (i := 1) (by kernel_rfl) ?_
    refine Wp.seqN (by kernel_rfl) ?_
    obtain ⟨e_7_3, hi_7_3, h⟩ := bsome h
    refine Wp.reg tiok mix hc (by kernel_rfl) (ah := none) (rs := [some (.no), some (.no), some (.no), some (.el (.int .i64 e_7_3)), some (.no), some (.no)]) (kt := [1, 3, 4, 28]) (ko := [1]) (T' := [(1, .ra 1 0), (3, .int .i64 n_10), (4, .int .i64 i_11), (28, .bool (decide (e_7_3 ≥ 35)))]) (O' := [(1, .box [.int .i64 t0.fOp, .int .i64 t0.fN, .sl (List.map I t0.fType), .sl (List.map GTerm_S t0.fKids)])]) (by kernel_rfl) (And.intro (idx_sl (enc := I) (x := .int .i64 e_7_3) hi_7_3 (eq_I e_7_3)) trivial) (by kernel_rfl) (by kernel_rfl) ?_
    refine seqQ_norm ?_
    obtain ⟨n_14, hj_15, h⟩ := bsome h
    refine Wp.into (x := .normal) (mkS [(1, .ra 1 0), (3, .int .i64 n_14), (4, .int .i64 i_11)] [(1, .box [.int .i64 t0.fOp, .int .i64 t0.fN, .sl (List.map I t0.fType), .sl (List.map GTerm_S t0.fKids)])]) ?_ ?_
    · replace h := hj_15
      rcases itesome h with ⟨hb_13, h⟩ | ⟨hb_13, h⟩
      · refine Wp.condT (b := (decide (e_7_3 ≥ 35))) (by kernel_rfl) (by kernel_rfl) hb_13 ?_
        refine Wp.reg tiok mix hc (by kernel_rfl) (ah := none) (rs := [some (.no), some (.no), some (.no)]) (kt := [1, 3, 4]) (ko := [1]) (T' := [(1, .ra 1 0), (3, .int .i64 (wr (n_10 + 1))), (4, .int .i64 i_11)]) (O' := [(1, .box [.int .i64 t0.fOp, .int .i64 t0.fN, .sl (List.map I t0.fType), .sl (List.map GTerm_S t0.fKids)])]) (by kernel_rfl) trivial (by kernel_rfl) (by kernel_rfl) ?_
        obtain rfl := Option.some.inj h
        exact Into.mk
      · refine Wp.condF (b := (decide (e_7_3 ≥ 35))) (by kernel_rfl) (by kernel_rfl) hb_13 ?_
        refine Wp.skipN (by kernel_rfl) ?_
        obtain rfl := Option.some.inj h
        exact Into.view (fun a w hv => SRx.renL [] hv (by kernel_rfl) (by kernel_rfl) (by kernel_rfl))
    · clear hj_15
      refine blockQ_norm ?_
      refine seqQ_norm ?_
      refine Wp.reg tiok mix hc (by kernel_rfl) (ah := none) (rs := [some (.no), some (.no), some (.no)]) (kt := [1, 3, 4]) (ko := [1]) (T' := [(1, .ra 1 0), (3, .int .i64 n_14), (4, .int .i64 (wr (i_11 + 1)))]) (O' := [(1, .box [.int .i64 t0.fOp, .int .i64 t0.fN, .sl (List.map I t0.fType), .sl (List.map GTerm_S t0.fKids)])]) (by kernel_rfl) trivial (by kernel_rfl) (by kernel_rfl) ?_
      refine loopQ_norm ?_
      exact (spec_l9Count_l0_ih _ _ h c hc)
  · refine Wp.condF (b := (decide (i_11 < (t0.fType.length : Int)))) (by kernel_rfl) (by kernel_rfl) hb_12 ?_
    refine Wp.exitN (i := 0) (by kernel_rfl) ?_
    refine seqQ_exit ?_
    refine loopQ_exit ?_
    obtain rfl := Option.some.inj h
    exact Into.view (fun a w hv => SRx.renL [] hv (by kernel_rfl) (by kernel_rfl) (by kernel_rfl))
mutual
def spec_l9Count (t0 : GTerm) : Option (Int) :=
    (
      (spec_l2Has t0.fOp) >>= fun r_2_2 =>
      if r_2_2 = true then
        some ((decide (t0.fN < 0)))
      else
        some (false)
    ) >>= fun v_1 =>
    (
      if v_1 = true then
        some ((wr (0 + 1)))
      else
        some (0)
    ) >>= fun n_4 =>
    (spec_l9Count_l0 (t0, n_4, 0)) >>= fun n_16 =>
    (spec_l9Count_l1 (t0, n_16, 0)) >>= fun n_22 =>
    some n_22
  partial_fixpoint
def spec_l9Count_l1 (p : GTerm × Int × Int) : Option (Int) :=
  match p with
  | (t0, n_19, k_20) =>
    if (decide (k_20 < (t0.fKids.length : Int))) = true then
      (idx t0.fKids k_20) >>= fun e_12_4 =>
      (spec_l9Count e_12_4) >>= fun r_12_6 =>
      spec_l9Count_l1 (t0, (wr (n_19 + r_12_6)), (wr (k_20 + 1)))
    else
      some (n_19)
  partial_fixpoint
end
def M_spec_l9Count (t0 : GTerm) (r : Int) : Prop :=
  FnSound Try.prog 107 [.agg [.int .i64 t0.fOp, .int .i64 t0.fN, .sl (List.map I t0.fType), .sl (List.map GTerm_S t0.fKids)]] (.int .i64 r) []
def M_spec_l9Count_l1 (p : GTerm × Int × Int) (fl : Int) : Prop :=
  match p with
  | (t0, n_19, k_20) => ∀ c : Ctx, c.nt = 47 → WpL Try.prog c (cl (cl (cr (cl (cr (cr (cr (cr B107)))))))) (spec_l9Count_F2 c fl) (mkS [(1, .ra 1 0), (3, .int .i64 n_19), (5, .int .i64 k_20)] [(1, .box [.int .i64 t0.fOp, .int .i64 t0.fN, .sl (List.map I t0.fType), .sl (List.map GTerm_S t0.fKids)])])
theorem spec_l9Count_all : (∀ p r, spec_l9Count p = some r → M_spec_l9Count p r) ∧ (∀ p r, spec_l9Count_l1 p = some r → M_spec_l9Count_l1 p r) := by
  refine spec_l9Count.mutual_partial_correctness M_spec_l9Count M_spec_l9Count_l1 ?_ ?_
  · rintro spec_l9Count_l1_f spec_l9Count_l1_ih t0 r h
    show FnSound Try.prog 107 [.agg [.int .i64 t0.fOp, .int .i64 t0.fN, .sl (List.map I t0.fType), .sl (List.map GTerm_S t0.fKids)]] (.int .i64 r) []
    refine FnSound.body0 tiok (fn := Try.f107) (code := B107) (by kernel_rfl) (by kernel_rfl) (by kernel_rfl) (by kernel_rfl) (nt := 47) (by kernel_rfl) (by kernel_rfl) (T := [(0, .agg [.int .i64 t0.fOp, .int .i64 t0.fN, .sl (List.map I t0.fType), .sl (List.map GTerm_S t0.fKids)])]) (O := []) (by kernel_rfl) (by kernel_rfl) (fun c hc => ?_)
    refine Wp.seqN (by kernel_rfl) ?_
    refine Wp.reg tiok mix hc (by kernel_rfl) (ah := none) (rs := [some (.new 1), some (.no)]) (kt := [1]) (ko := [1]) (T' := [(1, .ra 1 0)]) (O' := [(1, .box [.int .i64 t0.fOp, .int .i64 t0.fN, .sl (List.map I t0.fType), .sl (List.map GTerm_S t0.fKids)])]) (by kernel_rfl) trivial (by kernel_rfl) (by kernel_rfl) ?_
    refine seqQ_norm ?_
    refine Wp.seqN (by kernel_rfl) ?_
    refine Wp.reg tiok mix hc (by kernel_rfl) (ah := none) (rs := [some (.no)]) (kt := [1, 3]) (ko := [1]) (T' := [(1, .ra 1 0), (3, .int .i64 0)]) (O' := [(1, .box [.int .i64 t0.fOp, .int .i64 t0.fN, .sl (List.map I t0.fType), .sl (List.map GTerm_S t0.fKids)])]) (by kernel_rfl) trivial (by kernel_rfl) (by kernel_rfl) ?_
    refine seqQ_norm ?_
    refine Wp.seqN (by kernel_rfl) ?_
    refine Wp.seqN (by kernel_rfl) ?_
    obtain ⟨v_1, hj_2, h⟩ := bsome h
    refine Wp.into (x := .normal) (mkS [(1, .ra 1 0), (3, .int .i64 0), (13, .bool v_1)] [(1, .box [.int .i64 t0.fOp, .int .i64 t0.fN, .sl (List.map I t0.fType), .sl (List.map GTerm_S t0.fKids)])]) ?_ ?_
    · replace h := hj_2
      obtain ⟨r_2_2, hr_2_2, h⟩ := bsome h
      rcases itesome h with ⟨hb_2_0, h⟩ | ⟨hb_2_0, h⟩
      · refine Wp.reg tiok mix hc (by kernel_rfl) (ah := none) (rs := [some (.no), some (.no), some (.call (.bool r_2_2) [] 1), some (.no), some (.no), some (.no), some (.no), some (.cond true)]) (kt := [1, 3, 13]) (ko := [1]) (T' := [(1, .ra 1 0), (3, .int .i64 0), (13, .bool (decide (t0.fN < 0)))]) (O' := [(1, .box [.int .i64 t0.fOp, .int .i64 t0.fN, .sl (List.map I t0.fType), .sl (List.map GTerm_S t0.fKids)])]) (by kernel_rfl) (And.intro (spec_l2Has_s _ _ hr_2_2) (And.intro bod_108 (And.intro (Or.inl rfl : ([] : List Nat) = [] ∨ noSh (.bool r_2_2) = true) (And.intro hb_2_0 (And.intro hb_2_0 (And.intro hb_2_0 (And.intro hb_2_0 trivial))))))) (by kernel_rfl) (by kernel_rfl) ?_
        obtain rfl := Option.some.inj h
        exact Into.mk
      · refine Wp.reg tiok mix hc (by kernel_rfl) (ah := none) (rs := [some (.no), some (.no), some (.call (.bool r_2_2) [] 1), some (.no), none, none, none, some (.cond false)]) (kt := [1, 3, 13]) (ko := [1]) (T' := [(1, .ra 1 0), (3, .int .i64 0), (13, .bool false)]) (O' := [(1, .box [.int .i64 t0.fOp, .int .i64 t0.fN, .sl (List.map I t0.fType), .sl (List.map GTerm_S t0.fKids)])]) (by kernel_rfl) (And.intro (spec_l2Has_s _ _ hr_2_2) (And.intro bod_108 (And.intro (Or.inl rfl : ([] : List Nat) = [] ∨ noSh (.bool r_2_2) = true) (And.intro (neT hb_2_0 : r_2_2 ≠ true) (And.intro (neT hb_2_0 : r_2_2 ≠ true) (And.intro (neT hb_2_0 : r_2_2 ≠ true) (And.intro hb_2_0 trivial))))))) (by kernel_rfl) (by kernel_rfl) ?_
        obtain rfl := Option.some.inj h
        exact Into.mk
    · clear hj_2
      refine seqQ_norm ?_
      obtain ⟨n_4, hj_5, h⟩ := bsome h
      refine Wp.into (x := .normal) (mkS [(1, .ra 1 0), (3, .int .i64 n_4)] [(1, .box [.int .i64 t0.fOp, .int .i64 t0.fN, .sl (List.map I t0.fType), .sl (List.map GTerm_S t0.fKids)])]) ?_ ?_
      · replace h := hj_5
        rcases itesome h with ⟨hb_3, h⟩ | ⟨hb_3, h⟩
        · refine Wp.condT (b := v_1) (by kernel_rfl) (by kernel_rfl) hb_3 ?_
          refine Wp.reg tiok mix hc (by kernel_rfl) (ah := none) (rs := [some (.no), some (.no), some (.no)]) (kt := [1, 3]) (ko := [1]) (T' := [(1, .ra 1 0), (3, .int .i64 (wr (0 + 1)))]) (O' := [(1, .box [.int .i64 t0.fOp, .int .i64 t0.fN, .sl (List.map I t0.fType), .sl (List.map GTerm_S t0.fKids)])]) (by kernel_rfl) trivial (by kernel_rfl) (by kernel_rfl) ?_
          obtain rfl := Option.some.inj h
          exact Into.mk
        · refine Wp.condF (b := v_1) (by kernel_rfl) (by kernel_rfl) hb_3 ?_
          refine Wp.skipN (by kernel_rfl) ?_
          obtain rfl := Option.some.inj h
          exact Into.view (fun a w hv => SRx.renL [] hv (by kernel_rfl) (by kernel_rfl) (by kernel_rfl))
      · clear hj_5
        refine seqQ_norm ?_
        refine Wp.seqN (by kernel_rfl) ?_
        refine Wp.seqN (by kernel_rfl) ?_
        refine Wp.reg tiok mix hc (by kernel_rfl) (ah := none) (rs := [some (.no)]) (kt := [1, 3, 4]) (ko := [1]) (T' := [(1, .ra 1 0), (3, .int .i64 n_4), (4, .int .i64 0)]) (O' := [(1, .box [.int .i64 t0.fOp, .int .i64 t0.fN, .sl (List.map I t0.fType), .sl (List.map GTerm_S t0.fKids)])]) (by kernel_rfl) trivial (by kernel_rfl) (by kernel_rfl) ?_
        refine seqQ_norm ?_
        refine Wp.blockN (i := 0) (by kernel_rfl) ?_
        obtain ⟨n_16, hl_17, h⟩ := bsome h
        have hL := spec_l9Count_l0_s _ _ hl_17 c hc
        refine Wp.loopN (by kernel_rfl) ?_
        · refine WpL.into (e := (.exit 0)) (mkS [(1, .ra 1 0), (3, .int .i64 n_16)] [(1, .box [.int .i64 t0.fOp, .int .i64 t0.fN, .sl (List.map I t0.fType), .sl (List.map GTerm_S t0.fKids)])]) hL ?_
          refine blockQ_hit ?_
          refine seqQ_norm ?_
          refine Wp.seqN (by kernel_rfl) ?_
          refine Wp.seqN (by kernel_rfl) ?_
          refine Wp.reg tiok mix hc (by kernel_rfl) (ah := none) (rs := [some (.no)]) (kt := [1, 3, 5]) (ko := [1]) (T' := [(1, .ra 1 0), (3, .int .i64 n_16), (5, .int .i64 0)]) (O' := [(1, .box [.int .i64 t0.fOp, .int .i64 t0.fN, .sl (List.map I t0.fType), .sl (List.map GTerm_S t0.fKids)])]) (by kernel_rfl) trivial (by kernel_rfl) (by kernel_rfl) ?_
          refine seqQ_norm ?_
          refine Wp.blockN (i := 2) (by kernel_rfl) ?_
          obtain ⟨n_22, hl_23, h⟩ := bsome h
          have hL := spec_l9Count_l1_ih _ _ hl_23 c hc
          refine Wp.loopN (by kernel_rfl) ?_
          · refine WpL.into (e := (.exit 2)) (mkS [(3, .int .i64 n_22)] []) hL ?_
            refine blockQ_hit ?_
            refine seqQ_norm ?_
            refine Wp.seqN (by kernel_rfl) ?_
            refine Wp.reg tiok mix hc (by kernel_rfl) (ah := none) (rs := [some (.no), some (.no)]) (kt := [2]) (ko := []) (T' := [(2, .int .i64 n_22)]) (O' := []) (by kernel_rfl) trivial (by kernel_rfl) (by kernel_rfl) ?_
            refine seqQ_norm ?_
            refine Wp.retN (by kernel_rfl) ?_
            obtain rfl := Option.some.inj h
            exact RetQ.ret (fl := [true]) (by kernel_rfl)
  · rintro spec_l9Count_f spec_l9Count_l1_f spec_l9Count_ih spec_l9Count_l1_ih ⟨t0, n_19, k_20⟩ r h
    intro c hc
    show WpL Try.prog c (cl (cl (cr (cl (cr (cr (cr (cr B107)))))))) (spec_l9Count_F2 c r) (mkS [(1, .ra 1 0), (3, .int .i64 n_19), (5, .int .i64 k_20)] [(1, .box [.int .i64 t0.fOp, .int .i64 t0.fN, .sl (List.map I t0.fType), .sl (List.map GTerm_S t0.fKids)])])
    refine WpL.step ?_
    refine Wp.seqN (by kernel_rfl) ?_
    refine Wp.seqN (by kernel_rfl) ?_
    refine Wp.reg tiok mix hc (by kernel_rfl) (ah := none) (rs := [some (.no), some (.no), some (.no), some (.eqv (.no) ⟨[(34, .int .i64 (t0.fKids.length : Int))], [], []⟩), some (.no)]) (kt := [1, 3, 5, 35]) (ko := [1]) (T' := [(1, .ra 1 0), (3, .int .i64 n_19), (5, .int .i64 k_20), (35, .bool (decide (k_20 < (t0.fKids.length : Int))))]) (O' := [(1, .box [.int .i64 t0.fOp, .int .i64 t0.fN, .sl (List.map I t0.fType), .sl (List.map GTerm_S t0.fKids)])]) (by kernel_rfl) (And.intro (lenT (d := 34) GTerm_S t0.fKids) trivial) (by kernel_rfl) (by kernel_rfl) ?_
    refine seqQ_norm ?_
    rcases itesome h with ⟨hb_21, h⟩ | ⟨hb_21, h⟩
    · refine Wp.condT (b := (decide (k_20 < (t0.fKids.length : Int)))) (by kernel_rfl) (by kernel_rfl) hb_21 ?_
      refine Wp.skipN (by kernel_rfl) ?_
      refine seqQ_norm ?_
      refine Wp.seqN (by kernel_rfl) ?_
      refine Wp.blockN (i := 3) (by kernel_rfl) ?_
      obtain ⟨e_12_4, hi_12_4, h⟩ := bsome h
      obtain ⟨r_12_6, hr_12_6, h⟩ := bsome h
      refine Wp.reg tiok mix hc (by kernel_rfl) (ah := none) (rs := [some (.no), some (.no), some (.no), some (.no), some (.el (.agg [.int .i64 e_12_4.fOp, .int .i64 e_12_4.fN, .sl (List.map I e_12_4.fType), .sl (List.map GTerm_S e_12_4.fKids)])), some (.no), some (.call (.int .i64 r_12_6) [] 1), some (.no), some (.no)]) (kt := [1, 3, 5]) (ko := [1]) (T' := [(1, .ra 1 0), (3, .int .i64 (wr (n_19 + r_12_6))), (5, .int .i64 k_20)]) (O' := [(1, .box [.int .i64 t0.fOp, .int .i64 t0.fN, .sl (List.map I t0.fType), .sl (List.map GTerm_S t0.fKids)])]) (by kernel_rfl) (And.intro (idx_sl (enc := GTerm_S) (x := .agg [.int .i64 e_12_4.fOp, .int .i64 e_12_4.fN, .sl (List.map I e_12_4.fType), .sl (List.map GTerm_S e_12_4.fKids)]) hi_12_4 (eq_GTerm_S e_12_4)) (And.intro (spec_l9Count_ih _ _ hr_12_6) (And.intro bod_107 (And.intro (Or.inl rfl : ([] : List Nat) = [] ∨ noSh (.int .i64 r_12_6) = true) trivial)))) (by kernel_rfl) (by kernel_rfl) ?_
      refine blockQ_norm ?_
      refine seqQ_norm ?_
      refine Wp.reg tiok mix hc (by kernel_rfl) (ah := none) (rs := [some (.no), some (.no), some (.no)]) (kt := [1, 3, 5]) (ko := [1]) (T' := [(1, .ra 1 0), (3, .int .i64 (wr (n_19 + r_12_6))), (5, .int .i64 (wr (k_20 + 1)))]) (O' := [(1, .box [.int .i64 t0.fOp, .int .i64 t0.fN, .sl (List.map I t0.fType), .sl (List.map GTerm_S t0.fKids)])]) (by kernel_rfl) trivial (by kernel_rfl) (by kernel_rfl) ?_
      refine loopQ_norm ?_
      exact (spec_l9Count_l1_ih _ _ h c hc)
    · refine Wp.condF (b := (decide (k_20 < (t0.fKids.length : Int)))) (by kernel_rfl) (by kernel_rfl) hb_21 ?_
      refine Wp.exitN (i := 2) (by kernel_rfl) ?_
      refine seqQ_exit ?_
      refine loopQ_exit ?_
      obtain rfl := Option.some.inj h
      exact Into.view (fun a w hv => SRx.renL [] hv (by kernel_rfl) (by kernel_rfl) (by kernel_rfl))
theorem spec_l9Count_s : ∀ p r, spec_l9Count p = some r → M_spec_l9Count p r := spec_l9Count_all.1
theorem spec_l9Count_l1_s : ∀ p r, spec_l9Count_l1 p = some r → M_spec_l9Count_l1 p r := spec_l9Count_all.2
def spec_CountOpen (t0 : GTerm) : Option (Int) :=
    (spec_IsWritten t0) >>= fun r_1_1 =>
    if r_1_1 = true then
      (spec_l9Count t0) >>= fun r_3_1 =>
      some r_3_1
    else
      some (-1)
def M_spec_CountOpen (t0 : GTerm) (r : Int) : Prop :=
  FnSound Try.prog 56 [.agg [.int .i64 t0.fOp, .int .i64 t0.fN, .sl (List.map I t0.fType), .sl (List.map GTerm_S t0.fKids)]] (.int .i64 r) []
theorem spec_CountOpen_s : ∀ p r, spec_CountOpen p = some r → M_spec_CountOpen p r := by
  rintro t0 r h
  unfold spec_CountOpen at h
  show FnSound Try.prog 56 [.agg [.int .i64 t0.fOp, .int .i64 t0.fN, .sl (List.map I t0.fType), .sl (List.map GTerm_S t0.fKids)]] (.int .i64 r) []
  refine FnSound.body0 tiok (fn := Try.f56) (code := B56) (by kernel_rfl) (by kernel_rfl) (by kernel_rfl) (by kernel_rfl) (nt := 8) (by kernel_rfl) (by kernel_rfl) (T := [(0, .agg [.int .i64 t0.fOp, .int .i64 t0.fN, .sl (List.map I t0.fType), .sl (List.map GTerm_S t0.fKids)])]) (O := []) (by kernel_rfl) (by kernel_rfl) (fun c hc => ?_)
  refine Wp.seqN (by kernel_rfl) ?_
  refine Wp.reg tiok mix hc (by kernel_rfl) (ah := none) (rs := [some (.new 1), some (.no)]) (kt := [1]) (ko := [1]) (T' := [(1, .ra 1 0)]) (O' := [(1, .box [.int .i64 t0.fOp, .int .i64 t0.fN, .sl (List.map I t0.fType), .sl (List.map GTerm_S t0.fKids)])]) (by kernel_rfl) trivial (by kernel_rfl) (by kernel_rfl) ?_
  refine seqQ_norm ?_
  refine Wp.seqN (by kernel_rfl) ?_
  refine Wp.seqN (by kernel_rfl) ?_
  obtain ⟨r_1_1, hr_1_1, h⟩ := bsome h
  refine Wp.reg tiok mix hc (by kernel_rfl) (ah := none) (rs := [some (.no), some (.call (.bool r_1_1) [] 1), some (.no)]) (kt := [1, 5]) (ko := [1]) (T' := [(1, .ra 1 0), (5, .bool (!r_1_1))]) (O' := [(1, .box [.int .i64 t0.fOp, .int .i64 t0.fN, .sl (List.map I t0.fType), .sl (List.map GTerm_S t0.fKids)])]) (by kernel_rfl) (And.intro (spec_IsWritten_s _ _ hr_1_1) (And.intro bod_106 (And.intro (Or.inl rfl : ([] : List Nat) = [] ∨ noSh (.bool r_1_1) = true) trivial))) (by kernel_rfl) (by kernel_rfl) ?_
  refine seqQ_norm ?_
  rcases itesome h with ⟨hb_1, h⟩ | ⟨hb_1, h⟩
  · refine Wp.condF (b := (!r_1_1)) (by kernel_rfl) (by kernel_rfl) (nF hb_1) ?_
    refine Wp.skipN (by kernel_rfl) ?_
    refine seqQ_norm ?_
    refine Wp.seqN (by kernel_rfl) ?_
    obtain ⟨r_3_1, hr_3_1, h⟩ := bsome h
    refine Wp.reg tiok mix hc (by kernel_rfl) (ah := none) (rs := [some (.no), some (.call (.int .i64 r_3_1) [] 1), some (.no)]) (kt := [2]) (ko := []) (T' := [(2, .int .i64 r_3_1)]) (O' := []) (by kernel_rfl) (And.intro (spec_l9Count_s _ _ hr_3_1) (And.intro bod_107 (And.intro (Or.inl rfl : ([] : List Nat) = [] ∨ noSh (.int .i64 r_3_1) = true) trivial))) (by kernel_rfl) (by kernel_rfl) ?_
    refine seqQ_norm ?_
    refine Wp.retN (by kernel_rfl) ?_
    obtain rfl := Option.some.inj h
    exact RetQ.ret (fl := [true]) (by kernel_rfl)
  · refine Wp.condT (b := (!r_1_1)) (by kernel_rfl) (by kernel_rfl) (nT hb_1) ?_
    refine Wp.seqN (by kernel_rfl) ?_
    refine Wp.reg tiok mix hc (by kernel_rfl) (ah := none) (rs := [some (.no)]) (kt := [2]) (ko := []) (T' := [(2, .int .i64 (-1))]) (O' := []) (by kernel_rfl) trivial (by kernel_rfl) (by kernel_rfl) ?_
    refine seqQ_norm ?_
    refine Wp.retN (by kernel_rfl) ?_
    refine seqQ_ret ?_
    obtain rfl := Option.some.inj h
    exact RetQ.ret (fl := [true]) (by kernel_rfl)
def spec_l2Code (p : Bool × Int) : Option (Int) :=
  match p with
  | (arrow0, g1) =>
    (
      if arrow0 = true then
        some ((decide (g1 < 0)))
      else
        some (false)
    ) >>= fun v_1 =>
    if v_1 = true then
      some 35
    else
      if arrow0 = true then
        some (wr (3 + g1))
      else
        if (decide (g1 < 0)) = true then
          some 36
        else
          some (wr (19 + g1))
def M_spec_l2Code (p : Bool × Int) (r : Int) : Prop :=
  match p with
  | (arrow0, g1) => FnSound Try.prog 109 [.bool arrow0, .int .i64 g1] (.int .i64 r) []
theorem spec_l2Code_s : ∀ p r, spec_l2Code p = some r → M_spec_l2Code p r := by
  rintro ⟨arrow0, g1⟩ r h
  unfold spec_l2Code at h
  show FnSound Try.prog 109 [.bool arrow0, .int .i64 g1] (.int .i64 r) []
  refine FnSound.body0 tiok (fn := Try.f109) (code := B109) (by kernel_rfl) (by kernel_rfl) (by kernel_rfl) (by kernel_rfl) (nt := 20) (by kernel_rfl) (by kernel_rfl) (T := [(0, .bool arrow0), (1, .int .i64 g1)]) (O := []) (by kernel_rfl) (by kernel_rfl) (fun c hc => ?_)
  refine Wp.seqN (by kernel_rfl) ?_
  refine Wp.reg tiok mix hc (by kernel_rfl) (ah := none) (rs := [some (.no)]) (kt := [0, 1]) (ko := []) (T' := [(0, .bool arrow0), (1, .int .i64 g1)]) (O' := []) (by kernel_rfl) trivial (by kernel_rfl) (by kernel_rfl) ?_
  refine seqQ_norm ?_
  refine Wp.seqN (by kernel_rfl) ?_
  refine Wp.blockN (i := 0) (by kernel_rfl) ?_
  refine Wp.seqN (by kernel_rfl) ?_
  obtain ⟨v_1, hj_2, h⟩ := bsome h
  refine Wp.into (x := .normal) (mkS [(0, .bool arrow0), (1, .int .i64 g1), (5, .bool v_1)] []) ?_ ?_
  · replace h := hj_2
    rcases itesome h with ⟨hb_1_0, h⟩ | ⟨hb_1_0, h⟩
    · refine Wp.reg tiok mix hc (by kernel_rfl) (ah := none) (rs := [some (.no), some (.no), some (.no), some (.no), some (.cond true), some (.no)]) (kt := [0, 1, 5]) (ko := []) (T' := [(0, .bool arrow0), (1, .int .i64 g1), (5, .bool (decide (g1 < 0)))]) (O' := []) (by kernel_rfl) (And.intro hb_1_0 (And.intro hb_1_0 (And.intro hb_1_0 trivial))) (by kernel_rfl) (by kernel_rfl) ?_
      obtain rfl := Option.some.inj h
      exact Into.mk
    · refine Wp.reg tiok mix hc (by kernel_rfl) (ah := none) (rs := [some (.no), some (.no), none, none, some (.cond false), some (.no)]) (kt := [0, 1, 5]) (ko := []) (T' := [(0, .bool arrow0), (1, .int .i64 g1), (5, .bool false)]) (O' := []) (by kernel_rfl) (And.intro (neT hb_1_0 : arrow0 ≠ true) (And.intro (neT hb_1_0 : arrow0 ≠ true) (And.intro hb_1_0 trivial))) (by kernel_rfl) (by kernel_rfl) ?_
      obtain rfl := Option.some.inj h
      exact Into.mk
  · clear hj_2
    refine seqQ_norm ?_
    rcases itesome h with ⟨hb_3, h⟩ | ⟨hb_3, h⟩
    · refine Wp.condT (b := v_1) (by kernel_rfl) (by kernel_rfl) hb_3 ?_
      refine Wp.seqN (by kernel_rfl) ?_
      refine Wp.reg tiok mix hc (by kernel_rfl) (ah := none) (rs := [some (.no)]) (kt := [4]) (ko := []) (T' := [(4, .int .i64 35)]) (O' := []) (by kernel_rfl) trivial (by kernel_rfl) (by kernel_rfl) ?_
      refine seqQ_norm ?_
      refine Wp.retN (by kernel_rfl) ?_
      refine blockQ_ret ?_
      refine seqQ_ret ?_
      obtain rfl := Option.some.inj h
      exact RetQ.ret (fl := [true]) (by kernel_rfl)
    · refine Wp.condF (b := v_1) (by kernel_rfl) (by kernel_rfl) hb_3 ?_
      refine Wp.seqN (by kernel_rfl) ?_
      refine Wp.reg tiok mix hc (by kernel_rfl) (ah := none) (rs := [some (.no), some (.no)]) (kt := [1, 11]) (ko := []) (T' := [(1, .int .i64 g1), (11, .bool arrow0)]) (O' := []) (by kernel_rfl) trivial (by kernel_rfl) (by kernel_rfl) ?_
      refine seqQ_norm ?_
      rcases itesome h with ⟨hb_4, h⟩ | ⟨hb_4, h⟩
      · refine Wp.condT (b := arrow0) (by kernel_rfl) (by kernel_rfl) hb_4 ?_
        refine Wp.seqN (by kernel_rfl) ?_
        refine Wp.reg tiok mix hc (by kernel_rfl) (ah := none) (rs := [some (.no), some (.no), some (.no)]) (kt := [4]) (ko := []) (T' := [(4, .int .i64 (wr (3 + g1)))]) (O' := []) (by kernel_rfl) trivial (by kernel_rfl) (by kernel_rfl) ?_
        refine seqQ_norm ?_
        refine Wp.retN (by kernel_rfl) ?_
        refine blockQ_ret ?_
        refine seqQ_ret ?_
        obtain rfl := Option.some.inj h
        exact RetQ.ret (fl := [true]) (by kernel_rfl)
      · refine Wp.condF (b := arrow0) (by kernel_rfl) (by kernel_rfl) hb_4 ?_
        refine Wp.seqN (by kernel_rfl) ?_
        refine Wp.reg tiok mix hc (by kernel_rfl) (ah := none) (rs := [some (.no), some (.no), some (.no)]) (kt := [1, 15]) (ko := []) (T' := [(1, .int .i64 g1), (15, .bool (decide (g1 < 0)))]) (O' := []) (by kernel_rfl) trivial (by kernel_rfl) (by kernel_rfl) ?_
        refine seqQ_norm ?_
        rcases itesome h with ⟨hb_5, h⟩ | ⟨hb_5, h⟩
        · refine Wp.condT (b := (decide (g1 < 0))) (by kernel_rfl) (by kernel_rfl) hb_5 ?_
          refine Wp.seqN (by kernel_rfl) ?_
          refine Wp.reg tiok mix hc (by kernel_rfl) (ah := none) (rs := [some (.no)]) (kt := [4]) (ko := []) (T' := [(4, .int .i64 36)]) (O' := []) (by kernel_rfl) trivial (by kernel_rfl) (by kernel_rfl) ?_
          refine seqQ_norm ?_
          refine Wp.retN (by kernel_rfl) ?_
          refine blockQ_ret ?_
          refine seqQ_ret ?_
          obtain rfl := Option.some.inj h
          exact RetQ.ret (fl := [true]) (by kernel_rfl)
        · refine Wp.condF (b := (decide (g1 < 0))) (by kernel_rfl) (by kernel_rfl) hb_5 ?_
          refine Wp.skipN (by kernel_rfl) ?_
          refine blockQ_norm ?_
          refine seqQ_norm ?_
          refine Wp.seqN (by kernel_rfl) ?_
          refine Wp.reg tiok mix hc (by kernel_rfl) (ah := none) (rs := [some (.no), some (.no), some (.no)]) (kt := [4]) (ko := []) (T' := [(4, .int .i64 (wr (19 + g1)))]) (O' := []) (by kernel_rfl) trivial (by kernel_rfl) (by kernel_rfl) ?_
          refine seqQ_norm ?_
          refine Wp.retN (by kernel_rfl) ?_
          obtain rfl := Option.some.inj h
          exact RetQ.ret (fl := [true]) (by kernel_rfl)
def spec_l9Fill_F1 (c : Ctx) (t0 : GTerm) (out_5 : Int) : (List Int) × (List Int) → Exit → AState → Prop
  | (l_25, out_26) => Into c (.exit 0) (mkS [(1, .sl (List.map I l_25)), (2, .ra 1 0), (4, .ra 2 0), (6, .ra 3 0)] [(1, .box [.int .i64 t0.fOp, .int .i64 t0.fN, .sl (List.map I t0.fType), .sl (List.map GTerm_S t0.fKids)]), (2, .box [.int .i64 0, .int .i64 0, .nils, .nils]), (3, .box [.int .i64 t0.fOp, .int .i64 out_5, .rs 6, .nils]), (6, .arr (List.map I out_26))])
def spec_l9Fill_F2 (c : Ctx) (t0 : GTerm) (out_5 : Int) (out_26 : List Int) : (List Int) × (List GTerm) → Exit → AState → Prop
  | (l_34, out_35) => Into c (.exit 2) (mkS [(1, .sl (List.map I l_34)), (4, .ra 2 0), (6, .ra 3 0)] [(2, .box [.int .i64 0, .int .i64 0, .nils, .nils]), (3, .box [.int .i64 t0.fOp, .int .i64 out_5, .rs 6, .rs 17]), (6, .arr (List.map I out_26)), (17, .arr (List.map GTerm_O out_35))])
def spec_l9Fill_l0 (p : GTerm × Int × (List Int) × (List Int) × Int) : Option ((List Int) × (List Int)) :=
  match p with
  | (t0, out_5, l_12, out_19, i_13) =>
    if (decide (i_13 < (t0.fType.length : Int))) = true then
      (idx t0.fType i_13) >>= fun e_8_3 =>
      (
        if (decide (e_8_3 ≥ 35)) = true then
          (idx l_12 0) >>= fun e_10_3 =>
          (spec_l2Code ((e_8_3 == 35), e_10_3)) >>= fun r_10_5 =>
          (cut l_12 (some 1) none none) >>= fun c_11_1 =>
          some ((c_11_1, r_10_5))
        else
          some ((l_12, e_8_3))
      ) >>= fun (l_22, c_23) =>
      (fits (out_19.length + [c_23].length) 8) >>= fun _ =>
      spec_l9Fill_l0 (t0, out_5, l_22, (out_19 ++ [c_23]), (wr (i_13 + 1)))
    else
      some ((l_12, out_19))
  partial_fixpoint
def M_spec_l9Fill_l0 (p : GTerm × Int × (List Int) × (List Int) × Int) (fl : (List Int) × (List Int)) : Prop :=
  match p with
  | (t0, out_5, l_12, out_19, i_13) => ∀ c : Ctx, c.nt = 85 → WpL Try.prog c (cl (cl (cr (cl (cr (cr (cr B58))))))) (spec_l9Fill_F1 c t0 out_5 fl) (mkS [(1, .sl (List.map I l_12)), (2, .ra 1 0), (4, .ra 2 0), (6, .ra 3 0), (7, .int .i64 i_13)] [(1, .box [.int .i64 t0.fOp, .int .i64 t0.fN, .sl (List.map I t0.fType), .sl (List.map GTerm_S t0.fKids)]), (2, .box [.int .i64 0, .int .i64 0, .nils, .nils]), (3, .box [.int .i64 t0.fOp, .int .i64 out_5, .rs 6, .nils]), (6, .arr (List.map I out_19))])
theorem spec_l9Fill_l0_s : ∀ p r, spec_l9Fill_l0 p = some r → M_spec_l9Fill_l0 p r := by
  refine spec_l9Fill_l0.partial_correctness M_spec_l9Fill_l0 ?_
  rintro spec_l9Fill_l0_f spec_l9Fill_l0_ih ⟨t0, out_5, l_12, out_19, i_13⟩ r h
  intro c hc
  show WpL Try.prog c (cl (cl (cr (cl (cr (cr (cr B58))))))) (spec_l9Fill_F1 c t0 out_5 r) (mkS [(1, .sl (List.map I l_12)), (2, .ra 1 0), (4, .ra 2 0), (6, .ra 3 0), (7, .int .i64 i_13)] [(1, .box [.int .i64 t0.fOp, .int .i64 t0.fN, .sl (List.map I t0.fType), .sl (List.map GTerm_S t0.fKids)]), (2, .box [.int .i64 0, .int .i64 0, .nils, .nils]), (3, .box [.int .i64 t0.fOp, .int .i64 out_5, .rs 6, .nils]), (6, .arr (List.map I out_19))])
  refine WpL.step ?_
  refine Wp.seqN (by kernel_rfl) ?_
  refine Wp.seqN (by kernel_rfl) ?_
  refine Wp.reg tiok mix hc (by kernel_rfl) (ah := none) (rs := [some (.no), some (.no), some (.no), some (.eqv (.no) ⟨[(34, .int .i64 (t0.fType.length : Int))], [], []⟩), some (.no)]) (kt := [1, 2, 4, 6, 7, 35]) (ko := [1, 2, 3, 6]) (T' := [(1, .sl (List.map I l_12)), (2, .ra 1 0), (4, .ra 2 0), (6, .ra 3 0), (7, .int .i64 i_13), (35, .bool (decide (i_13 < (t0.fType.length : Int))))]) (O' := [(1, .box [.int .i64 t0.fOp, .int .i64 t0.fN, .sl (List.map I t0.fType), .sl (List.map GTerm_S t0.fKids)]), (2, .box [.int .i64 0, .int .i64 0, .nils, .nils]), (3, .box [.int .i64 t0.fOp, .int .i64 out_5, .rs 6, .nils]), (6, .arr (List.map I out_19))]) (by kernel_rfl) (And.intro (lenT (d := 34) I t0.fType) trivial) (by kernel_rfl) (by kernel_rfl) ?_
  refine seqQ_norm ?_
  rcases itesome h with ⟨hb_20, h⟩ | ⟨hb_20, h⟩
  · refine Wp.condT (b := (decide (i_13 < (t0.fType.length : Int)))) (by kernel_rfl) (by kernel_rfl) hb_20 ?_
    refine Wp.skipN (by kernel_rfl) ?_
    refine seqQ_norm ?_
    refine Wp.seqN (by kernel_rfl) ?_
    refine Wp.blockN (i := 1) (by kernel_rfl) ?_
    refine Wp.seqN (by kernel_rfl) ?_
    obtain ⟨e_8_3, hi_8_3, h⟩ := bsome h
    refine Wp.reg tiok mix hc (by kernel_rfl) (ah := none) (rs := [some (.no), some (.no), some (.no), some (.el (.int .i64 e_8_3)), some (.no), some (.no)]) (kt := [1, 2, 4, 6, 7, 8]) (ko := [1, 2, 3, 6]) (T' := [(1, .sl (List.map I l_12)), (2, .ra 1 0), (4, .ra 2 0), (6, .ra 3 0), (7, .int .i64 i_13), (8, .int .i64 e_8_3)]) (O' := [(1, .box [.int .i64 t0.fOp, .int .i64 t0.fN, .sl (List.map I t0.fType), .sl (List.map GTerm_S t0.fKids)]), (2, .box [.int .i64 0, .int .i64 0, .nils, .nils]), (3, .box [.int .i64 t0.fOp, .int .i64 out_5, .rs 6, .nils]), (6, .arr (List.map I out_19))]) (by kernel_rfl) (And.intro (idx_sl (enc := I) (x := .int .i64 e_8_3) hi_8_3 (eq_I e_8_3)) trivial) (by kernel_rfl) (by kernel_rfl) ?_
    refine seqQ_norm ?_
    refine Wp.seqN (by kernel_rfl) ?_
    refine Wp.seqN (by kernel_rfl) ?_
    refine Wp.reg tiok mix hc (by kernel_rfl) (ah := none) (rs := [some (.no), some (.no)]) (kt := [1, 2, 4, 6, 7, 8, 44]) (ko := [1, 2, 3, 6]) (T' := [(1, .sl (List.map I l_12)), (2, .ra 1 0), (4, .ra 2 0), (6, .ra 3 0), (7, .int .i64 i_13), (8, .int .i64 e_8_3), (44, .bool (decide (e_8_3 ≥ 35)))]) (O' := [(1, .box [.int .i64 t0.fOp, .int .i64 t0.fN, .sl (List.map I t0.fType), .sl (List.map GTerm_S t0.fKids)]), (2, .box [.int .i64 0, .int .i64 0, .nils, .nils]), (3, .box [.int .i64 t0.fOp, .int .i64 out_5, .rs 6, .nils]), (6, .arr (List.map I out_19))]) (by kernel_rfl) trivial (by kernel_rfl) (by kernel_rfl) ?_
    refine seqQ_norm ?_
    obtain ⟨⟨l_22, c_23⟩, hj_24, h⟩ := bsome h
    refine Wp.into (x := .normal) (mkS [(1, .sl (List.map I l_22)), (2, .ra 1 0), (4, .ra 2 0), (6, .ra 3 0), (7, .int .i64 i_13), (8, .int .i64 c_23)] [(1, .box [.int .i64 t0.fOp, .int .i64 t0.fN, .sl (List.map I t0.fType), .sl (List.map GTerm_S t0.fKids)]), (2, .box [.int .i64 0, .int .i64 0, .nils, .nils]), (3, .box [.int .i64 t0.fOp, .int .i64 out_5, .rs 6, .nils]), (6, .arr (List.map I out_19))]) ?_ ?_
    · replace h := hj_24
      rcases itesome h with ⟨hb_21, h⟩ | ⟨hb_21, h⟩
      · refine Wp.condT (b := (decide (e_8_3 ≥ 35))) (by kernel_rfl) (by kernel_rfl) hb_21 ?_
        refine Wp.seqN (by kernel_rfl) ?_
        obtain ⟨e_10_3, hi_10_3, h⟩ := bsome h
        obtain ⟨r_10_5, hr_10_5, h⟩ := bsome h
        refine Wp.reg tiok mix hc (by kernel_rfl) (ah := none) (rs := [some (.no), some (.no), some (.no), some (.el (.int .i64 e_10_3)), some (.no), some (.call (.int .i64 r_10_5) [] 1), some (.no)]) (kt := [1, 2, 4, 6, 7, 8]) (ko := [1, 2, 3, 6]) (T' := [(1, .sl (List.map I l_12)), (2, .ra 1 0), (4, .ra 2 0), (6, .ra 3 0), (7, .int .i64 i_13), (8, .int .i64 r_10_5)]) (O' := [(1, .box [.int .i64 t0.fOp, .int .i64 t0.fN, .sl (List.map I t0.fType), .sl (List.map GTerm_S t0.fKids)]), (2, .box [.int .i64 0, .int .i64 0, .nils, .nils]), (3, .box [.int .i64 t0.fOp, .int .i64 out_5, .rs 6, .nils]), (6, .arr (List.map I out_19))]) (by kernel_rfl) (And.intro (idx_sl (enc := I) (x := .int .i64 e_10_3) hi_10_3 (eq_I e_10_3)) (And.intro (spec_l2Code_s _ _ hr_10_5) (And.intro bod_109 (And.intro (Or.inl rfl : ([] : List Nat) = [] ∨ noSh (.int .i64 r_10_5) = true) trivial)))) (by kernel_rfl) (by kernel_rfl) ?_
        refine seqQ_norm ?_
        obtain ⟨c_11_1, hs_11_1, h⟩ := bsome h
        refine Wp.reg tiok mix hc (by kernel_rfl) (ah := none) (rs := [some (.no), some (.eqv (.no) ⟨[(52, .sl (List.map I c_11_1))], [], []⟩), some (.no)]) (kt := [1, 2, 4, 6, 7, 8]) (ko := [1, 2, 3, 6]) (T' := [(1, .sl (List.map I c_11_1)), (2, .ra 1 0), (4, .ra 2 0), (6, .ra 3 0), (7, .int .i64 i_13), (8, .int .i64 r_10_5)]) (O' := [(1, .box [.int .i64 t0.fOp, .int .i64 t0.fN, .sl (List.map I t0.fType), .sl (List.map GTerm_S t0.fKids)]), (2, .box [.int .i64 0, .int .i64 0, .nils, .nils]), (3, .box [.int .i64 t0.fOp, .int .i64 out_5, .rs 6, .nils]), (6, .arr (List.map I out_19))]) (by kernel_rfl) (And.intro (cut_wr (d := 52) I hs_11_1) (And.intro (cut_ob (enc := I) (sz := 1) sz_I hs_11_1) trivial)) (by kernel_rfl) (by kernel_rfl) ?_
        obtain ⟨rfl, rfl⟩ := Prod.mk.inj (Option.some.inj h)
        exact Into.mk
      · refine Wp.condF (b := (decide (e_8_3 ≥ 35))) (by kernel_rfl) (by kernel_rfl) hb_21 ?_
        refine Wp.skipN (by kernel_rfl) ?_
        obtain ⟨rfl, rfl⟩ := Prod.mk.inj (Option.some.inj h)
        exact Into.view (fun a w hv => SRx.renL [] hv (by kernel_rfl) (by kernel_rfl) (by kernel_rfl))
    · clear hj_24
      refine seqQ_norm ?_
      obtain ⟨_, hk_12_4, h⟩ := bsome h
      refine Wp.reg tiok mix hc (by kernel_rfl) (ah := none) (rs := [some (.no), some (.no), some (.no), some (.mk 9 true), some (.eqv (.mk 10 true) ⟨[(57, .rs 10)], [(10, some (.arr (List.map I (out_19 ++ [c_23])))), (6, none), (9, none)], [10]⟩), some (.no), some (.no)]) (kt := [1, 2, 4, 6, 7]) (ko := [1, 2, 3, 10]) (T' := [(1, .sl (List.map I l_22)), (2, .ra 1 0), (4, .ra 2 0), (6, .ra 3 0), (7, .int .i64 i_13)]) (O' := [(1, .box [.int .i64 t0.fOp, .int .i64 t0.fN, .sl (List.map I t0.fType), .sl (List.map GTerm_S t0.fKids)]), (2, .box [.int .i64 0, .int .i64 0, .nils, .nils]), (3, .box [.int .i64 t0.fOp, .int .i64 out_5, .rs 10, .nils]), (10, .arr (List.map I (out_19 ++ [c_23])))]) (by kernel_rfl) (And.intro (congrArg (fun z => (⟨[(57, .rs 10)], [(10, some (.arr z)), (6, none), (9, none)], [10]⟩ : Wr)) ((List.map_append).symm : (List.map I out_19) ++ (List.map I [c_23]) = List.map I (out_19 ++ [c_23]))) (And.intro (app_ob (enc1 := I) (enc2 := I) (e1 := out_19) (e2 := [c_23]) (sz := 1) ek_I ek_I hk_12_4) trivial)) (by kernel_rfl) (by kernel_rfl) ?_
      refine blockQ_norm ?_
      refine seqQ_norm ?_
      refine Wp.reg tiok mix hc (by kernel_rfl) (ah := none) (rs := [some (.no), some (.no), some (.no)]) (kt := [1, 2, 4, 6, 7]) (ko := [1, 2, 3, 10]) (T' := [(1, .sl (List.map I l_22)), (2, .ra 1 0), (4, .ra 2 0), (6, .ra 3 0), (7, .int .i64 (wr (i_13 + 1)))]) (O' := [(1, .box [.int .i64 t0.fOp, .int .i64 t0.fN, .sl (List.map I t0.fType), .sl (List.map GTerm_S t0.fKids)]), (2, .box [.int .i64 0, .int .i64 0, .nils, .nils]), (3, .box [.int .i64 t0.fOp, .int .i64 out_5, .rs 10, .nils]), (10, .arr (List.map I (out_19 ++ [c_23])))]) (by kernel_rfl) trivial (by kernel_rfl) (by kernel_rfl) ?_
      refine loopQ_norm ?_
      exact WpL.view (fun a w hv => SRx.renL [(6, 10)] hv (by kernel_rfl) (by kernel_rfl) (by kernel_rfl)) (spec_l9Fill_l0_ih _ _ h c hc)
  · refine Wp.condF (b := (decide (i_13 < (t0.fType.length : Int)))) (by kernel_rfl) (by kernel_rfl) hb_20 ?_
    refine Wp.exitN (i := 0) (by kernel_rfl) ?_
    refine seqQ_exit ?_
    refine loopQ_exit ?_
    obtain ⟨rfl, rfl⟩ := Prod.mk.inj (Option.some.inj h)
    exact Into.view (fun a w hv => SRx.renL [] hv (by kernel_rfl) (by kernel_rfl) (by kernel_rfl))
mutual
def spec_l9Fill (p : GTerm × (List Int)) : Option (GTerm × (List Int)) :=
  match p with
  | (t0, l1) =>
    (
      (spec_l2Has t0.fOp) >>= fun r_2_2 =>
      if r_2_2 = true then
        some ((decide (t0.fN < 0)))
      else
        some (false)
    ) >>= fun v_1 =>
    (
      if v_1 = true then
        (idx l1 0) >>= fun e_3_1 =>
        (cut l1 (some 1) none none) >>= fun c_4_1 =>
        some ((c_4_1, e_3_1))
      else
        some ((l1, t0.fN))
    ) >>= fun (l_4, out_5) =>
    (spec_l9Fill_l0 (t0, out_5, l_4, [], 0)) >>= fun (l_25, out_26) =>
    (spec_l9Fill_l1 (t0, out_5, out_26, l_25, [], 0)) >>= fun (l_34, out_35) =>
    some ((GTerm.mk t0.fOp out_5 out_26 out_35), l_34)
  partial_fixpoint
def spec_l9Fill_l1 (p : GTerm × Int × (List Int) × (List Int) × (List GTerm) × Int) : Option ((List Int) × (List GTerm)) :=
  match p with
  | (t0, out_5, out_26, l_29, out_32, k_30) =>
    if (decide (k_30 < (t0.fKids.length : Int))) = true then
      (idx t0.fKids k_30) >>= fun e_16_3 =>
      (spec_l9Fill (e_16_3, l_29)) >>= fun (r_16_6_0, r_16_6_1) =>
      (fits (out_32.length + [r_16_6_0].length) 64) >>= fun _ =>
      spec_l9Fill_l1 (t0, out_5, out_26, r_16_6_1, (out_32 ++ [r_16_6_0]), (wr (k_30 + 1)))
    else
      some ((l_29, out_32))
  partial_fixpoint
end
def M_spec_l9Fill (p : GTerm × (List Int)) (r : GTerm × (List Int)) : Prop :=
  match p with
  | (t0, l1) => FnSound Try.prog 58 [.agg [.int .i64 t0.fOp, .int .i64 t0.fN, .sl (List.map I t0.fType), .sl (List.map GTerm_S t0.fKids)], .sl (List.map I l1)] (.tup [.agg [.int .i64 r.1.fOp, .int .i64 r.1.fN, .osl (List.map I r.1.fType), .osl (List.map GTerm_O r.1.fKids)], .sl (List.map I r.2)]) []
def M_spec_l9Fill_l1 (p : GTerm × Int × (List Int) × (List Int) × (List GTerm) × Int) (fl : (List Int) × (List GTerm)) : Prop :=
  match p with
  | (t0, out_5, out_26, l_29, out_32, k_30) => ∀ c : Ctx, c.nt = 85 → WpL Try.prog c (cl (cl (cr (cl (cr (cr (cr (cr B58)))))))) (spec_l9Fill_F2 c t0 out_5 out_26 fl) (mkS [(1, .sl (List.map I l_29)), (2, .ra 1 0), (4, .ra 2 0), (6, .ra 3 0), (9, .int .i64 k_30)] [(1, .box [.int .i64 t0.fOp, .int .i64 t0.fN, .sl (List.map I t0.fType), .sl (List.map GTerm_S t0.fKids)]), (2, .box [.int .i64 0, .int .i64 0, .nils, .nils]), (3, .box [.int .i64 t0.fOp, .int .i64 out_5, .rs 6, .rs 17]), (6, .arr (List.map I out_26)), (17, .arr (List.map GTerm_O out_32))])
theorem spec_l9Fill_all : (∀ p r, spec_l9Fill p = some r → M_spec_l9Fill p r) ∧ (∀ p r, spec_l9Fill_l1 p = some r → M_spec_l9Fill_l1 p r) := by
  refine spec_l9Fill.mutual_partial_correctness M_spec_l9Fill M_spec_l9Fill_l1 ?_ ?_
  · rintro spec_l9Fill_l1_f spec_l9Fill_l1_ih ⟨t0, l1⟩ r h
    show FnSound Try.prog 58 [.agg [.int .i64 t0.fOp, .int .i64 t0.fN, .sl (List.map I t0.fType), .sl (List.map GTerm_S t0.fKids)], .sl (List.map I l1)] (.tup [.agg [.int .i64 r.1.fOp, .int .i64 r.1.fN, .osl (List.map I r.1.fType), .osl (List.map GTerm_O r.1.fKids)], .sl (List.map I r.2)]) []
    refine FnSound.body0 tiok (fn := Try.f58) (code := B58) (by kernel_rfl) (by kernel_rfl) (by kernel_rfl) (by kernel_rfl) (nt := 85) (by kernel_rfl) (by kernel_rfl) (T := [(0, .agg [.int .i64 t0.fOp, .int .i64 t0.fN, .sl (List.map I t0.fType), .sl (List.map GTerm_S t0.fKids)]), (1, .sl (List.map I l1))]) (O := []) (by kernel_rfl) (by kernel_rfl) (fun c hc => ?_)
    refine Wp.seqN (by kernel_rfl) ?_
    refine Wp.reg tiok mix hc (by kernel_rfl) (ah := none) (rs := [some (.new 1), some (.new 2), some (.no)]) (kt := [1, 2, 4]) (ko := [1, 2]) (T' := [(1, .sl (List.map I l1)), (2, .ra 1 0), (4, .ra 2 0)]) (O' := [(1, .box [.int .i64 t0.fOp, .int .i64 t0.fN, .sl (List.map I t0.fType), .sl (List.map GTerm_S t0.fKids)]), (2, .box [.int .i64 0, .int .i64 0, .nils, .nils])]) (by kernel_rfl) trivial (by kernel_rfl) (by kernel_rfl) ?_
    refine seqQ_norm ?_
    refine Wp.seqN (by kernel_rfl) ?_
    refine Wp.reg tiok mix hc (by kernel_rfl) (ah := none) (rs := [some (.no), some (.no), some (.no), some (.no), some (.no), some (.new 3), some (.no)]) (kt := [1, 2, 4, 6]) (ko := [1, 2, 3]) (T' := [(1, .sl (List.map I l1)), (2, .ra 1 0), (4, .ra 2 0), (6, .ra 3 0)]) (O' := [(1, .box [.int .i64 t0.fOp, .int .i64 t0.fN, .sl (List.map I t0.fType), .sl (List.map GTerm_S t0.fKids)]), (2, .box [.int .i64 0, .int .i64 0, .nils, .nils]), (3, .box [.int .i64 t0.fOp, .int .i64 t0.fN, .nils, .nils])]) (by kernel_rfl) trivial (by kernel_rfl) (by kernel_rfl) ?_
    refine seqQ_norm ?_
    refine Wp.seqN (by kernel_rfl) ?_
    refine Wp.seqN (by kernel_rfl) ?_
    obtain ⟨v_1, hj_2, h⟩ := bsome h
    refine Wp.into (x := .normal) (mkS [(1, .sl (List.map I l1)), (2, .ra 1 0), (4, .ra 2 0), (6, .ra 3 0), (24, .bool v_1)] [(1, .box [.int .i64 t0.fOp, .int .i64 t0.fN, .sl (List.map I t0.fType), .sl (List.map GTerm_S t0.fKids)]), (2, .box [.int .i64 0, .int .i64 0, .nils, .nils]), (3, .box [.int .i64 t0.fOp, .int .i64 t0.fN, .nils, .nils])]) ?_ ?_
    · replace h := hj_2
      obtain ⟨r_2_2, hr_2_2, h⟩ := bsome h
      rcases itesome h with ⟨hb_2_0, h⟩ | ⟨hb_2_0, h⟩
      · refine Wp.reg tiok mix hc (by kernel_rfl) (ah := none) (rs := [some (.no), some (.no), some (.call (.bool r_2_2) [] 1), some (.no), some (.no), some (.no), some (.no), some (.cond true)]) (kt := [1, 2, 4, 6, 24]) (ko := [1, 2, 3]) (T' := [(1, .sl (List.map I l1)), (2, .ra 1 0), (4, .ra 2 0), (6, .ra 3 0), (24, .bool (decide (t0.fN < 0)))]) (O' := [(1, .box [.int .i64 t0.fOp, .int .i64 t0.fN, .sl (List.map I t0.fType), .sl (List.map GTerm_S t0.fKids)]), (2, .box [.int .i64 0, .int .i64 0, .nils, .nils]), (3, .box [.int .i64 t0.fOp, .int .i64 t0.fN, .nils, .nils])]) (by kernel_rfl) (And.intro (spec_l2Has_s _ _ hr_2_2) (And.intro bod_108 (And.intro (Or.inl rfl : ([] : List Nat) = [] ∨ noSh (.bool r_2_2) = true) (And.intro hb_2_0 (And.intro hb_2_0 (And.intro hb_2_0 (And.intro hb_2_0 trivial))))))) (by kernel_rfl) (by kernel_rfl) ?_
        obtain rfl := Option.some.inj h
        exact Into.mk
      · refine Wp.reg tiok mix hc (by kernel_rfl) (ah := none) (rs := [some (.no), some (.no), some (.call (.bool r_2_2) [] 1), some (.no), none, none, none, some (.cond false)]) (kt := [1, 2, 4, 6, 24]) (ko := [1, 2, 3]) (T' := [(1, .sl (List.map I l1)), (2, .ra 1 0), (4, .ra 2 0), (6, .ra 3 0), (24, .bool false)]) (O' := [(1, .box [.int .i64 t0.fOp, .int .i64 t0.fN, .sl (List.map I t0.fType), .sl (List.map GTerm_S t0.fKids)]), (2, .box [.int .i64 0, .int .i64 0, .nils, .nils]), (3, .box [.int .i64 t0.fOp, .int .i64 t0.fN, .nils, .nils])]) (by kernel_rfl) (And.intro (spec_l2Has_s _ _ hr_2_2) (And.intro bod_108 (And.intro (Or.inl rfl : ([] : List Nat) = [] ∨ noSh (.bool r_2_2) = true) (And.intro (neT hb_2_0 : r_2_2 ≠ true) (And.intro (neT hb_2_0 : r_2_2 ≠ true) (And.intro (neT hb_2_0 : r_2_2 ≠ true) (And.intro hb_2_0 trivial))))))) (by kernel_rfl) (by kernel_rfl) ?_
        obtain rfl := Option.some.inj h
        exact Into.mk
    · clear hj_2
      refine seqQ_norm ?_
      obtain ⟨⟨l_4, out_5⟩, hj_6, h⟩ := bsome h
      refine Wp.into (x := .normal) (mkS [(1, .sl (List.map I l_4)), (2, .ra 1 0), (4, .ra 2 0), (6, .ra 3 0)] [(1, .box [.int .i64 t0.fOp, .int .i64 t0.fN, .sl (List.map I t0.fType), .sl (List.map GTerm_S t0.fKids)]), (2, .box [.int .i64 0, .int .i64 0, .nils, .nils]), (3, .box [.int .i64 t0.fOp, .int .i64 out_5, .nils, .nils])]) ?_ ?_
      · replace h := hj_6
        rcases itesome h with ⟨hb_3, h⟩ | ⟨hb_3, h⟩
        · refine Wp.condT (b := v_1) (by kernel_rfl) (by kernel_rfl) hb_3 ?_
          refine Wp.seqN (by kernel_rfl) ?_
          obtain ⟨e_3_1, hi_3_1, h⟩ := bsome h
          refine Wp.reg tiok mix hc (by kernel_rfl) (ah := none) (rs := [some (.no), some (.el (.int .i64 e_3_1)), some (.no), some (.no), some (.no)]) (kt := [1, 2, 4, 6]) (ko := [1, 2, 3]) (T' := [(1, .sl (List.map I l1)), (2, .ra 1 0), (4, .ra 2 0), (6, .ra 3 0)]) (O' := [(1, .box [.int .i64 t0.fOp, .int .i64 t0.fN, .sl (List.map I t0.fType), .sl (List.map GTerm_S t0.fKids)]), (2, .box [.int .i64 0, .int .i64 0, .nils, .nils]), (3, .box [.int .i64 t0.fOp, .int .i64 e_3_1, .nils, .nils])]) (by kernel_rfl) (And.intro (idx_sl (enc := I) (x := .int .i64 e_3_1) hi_3_1 (eq_I e_3_1)) trivial) (by kernel_rfl) (by kernel_rfl) ?_
          refine seqQ_norm ?_
          obtain ⟨c_4_1, hs_4_1, h⟩ := bsome h
          refine Wp.reg tiok mix hc (by kernel_rfl) (ah := none) (rs := [some (.no), some (.eqv (.no) ⟨[(30, .sl (List.map I c_4_1))], [], []⟩), some (.no)]) (kt := [1, 2, 4, 6]) (ko := [1, 2, 3]) (T' := [(1, .sl (List.map I c_4_1)), (2, .ra 1 0), (4, .ra 2 0), (6, .ra 3 0)]) (O' := [(1, .box [.int .i64 t0.fOp, .int .i64 t0.fN, .sl (List.map I t0.fType), .sl (List.map GTerm_S t0.fKids)]), (2, .box [.int .i64 0, .int .i64 0, .nils, .nils]), (3, .box [.int .i64 t0.fOp, .int .i64 e_3_1, .nils, .nils])]) (by kernel_rfl) (And.intro (cut_wr (d := 30) I hs_4_1) (And.intro (cut_ob (enc := I) (sz := 1) sz_I hs_4_1) trivial)) (by kernel_rfl) (by kernel_rfl) ?_
          obtain ⟨rfl, rfl⟩ := Prod.mk.inj (Option.some.inj h)
          exact Into.mk
        · refine Wp.condF (b := v_1) (by kernel_rfl) (by kernel_rfl) hb_3 ?_
          refine Wp.skipN (by kernel_rfl) ?_
          obtain ⟨rfl, rfl⟩ := Prod.mk.inj (Option.some.inj h)
          exact Into.view (fun a w hv => SRx.renL [] hv (by kernel_rfl) (by kernel_rfl) (by kernel_rfl))
      · clear hj_6
        refine seqQ_norm ?_
        refine Wp.seqN (by kernel_rfl) ?_
        refine Wp.seqN (by kernel_rfl) ?_
        refine Wp.reg tiok mix hc (by kernel_rfl) (ah := none) (rs := [some (.no)]) (kt := [1, 2, 4, 6, 7]) (ko := [1, 2, 3]) (T' := [(1, .sl (List.map I l_4)), (2, .ra 1 0), (4, .ra 2 0), (6, .ra 3 0), (7, .int .i64 0)]) (O' := [(1, .box [.int .i64 t0.fOp, .int .i64 t0.fN, .sl (List.map I t0.fType), .sl (List.map GTerm_S t0.fKids)]), (2, .box [.int .i64 0, .int .i64 0, .nils, .nils]), (3, .box [.int .i64 t0.fOp, .int .i64 out_5, .nils, .nils])]) (by kernel_rfl) trivial (by kernel_rfl) (by kernel_rfl) ?_
        refine seqQ_norm ?_
        refine Wp.blockN (i := 0) (by kernel_rfl) ?_
        obtain ⟨⟨l_25, out_26⟩, hl_27, h⟩ := bsome h
        have hL := spec_l9Fill_l0_s _ _ hl_27 c hc
        refine Wp.loopN (by kernel_rfl) (WpL.view (fun a w hv => SRx.renL [(6, 11)] (SRx.nilBL 3 2 11 [.int .i64 t0.fOp, .int .i64 out_5, .nils, .nils] hv (by kernel_rfl) (by kernel_rfl) (by kernel_rfl)) (by kernel_rfl) (by kernel_rfl) (by kernel_rfl)) (?_ : WpL _ c _ _ (mkS [(1, .sl (List.map I l_4)), (2, .ra 1 0), (4, .ra 2 0), (6, .ra 3 0), (7, .int .i64 0)] [(1, .box [.int .i64 t0.fOp, .int .i64 t0.fN, .sl (List.map I t0.fType), .sl (List.map GTerm_S t0.fKids)]), (2, .box [.int .i64 0, .int .i64 0, .nils, .nils]), (3, .box [.int .i64 t0.fOp, .int .i64 out_5, .rs 6, .nils]), (6, .arr (List.map I []))])))
        · refine WpL.into (e := (.exit 0)) (mkS [(1, .sl (List.map I l_25)), (2, .ra 1 0), (4, .ra 2 0), (6, .ra 3 0)] [(1, .box [.int .i64 t0.fOp, .int .i64 t0.fN, .sl (List.map I t0.fType), .sl (List.map GTerm_S t0.fKids)]), (2, .box [.int .i64 0, .int .i64 0, .nils, .nils]), (3, .box [.int .i64 t0.fOp, .int .i64 out_5, .rs 6, .nils]), (6, .arr (List.map I out_26))]) hL ?_
          refine blockQ_hit ?_
          refine seqQ_norm ?_
          refine Wp.seqN (by kernel_rfl) ?_
          refine Wp.seqN (by kernel_rfl) ?_
          refine Wp.reg tiok mix hc (by kernel_rfl) (ah := none) (rs := [some (.no)]) (kt := [1, 2, 4, 6, 9]) (ko := [1, 2, 3, 6]) (T' := [(1, .sl (List.map I l_25)), (2, .ra 1 0), (4, .ra 2 0), (6, .ra 3 0), (9, .int .i64 0)]) (O' := [(1, .box [.int .i64 t0.fOp, .int .i64 t0.fN, .sl (List.map I t0.fType), .sl (List.map GTerm_S t0.fKids)]), (2, .box [.int .i64 0, .int .i64 0, .nils, .nils]), (3, .box [.int .i64 t0.fOp, .int .i64 out_5, .rs 6, .nils]), (6, .arr (List.map I out_26))]) (by kernel_rfl) trivial (by kernel_rfl) (by kernel_rfl) ?_
          refine seqQ_norm ?_
          refine Wp.blockN (i := 2) (by kernel_rfl) ?_
          obtain ⟨⟨l_34, out_35⟩, hl_36, h⟩ := bsome h
          have hL := spec_l9Fill_l1_ih _ _ hl_36 c hc
          refine Wp.loopN (by kernel_rfl) (WpL.view (fun a w hv => SRx.renL [(17, 28)] (SRx.nilBL 3 3 28 [.int .i64 t0.fOp, .int .i64 out_5, .rs 6, .nils] hv (by kernel_rfl) (by kernel_rfl) (by kernel_rfl)) (by kernel_rfl) (by kernel_rfl) (by kernel_rfl)) (?_ : WpL _ c _ _ (mkS [(1, .sl (List.map I l_25)), (2, .ra 1 0), (4, .ra 2 0), (6, .ra 3 0), (9, .int .i64 0)] [(1, .box [.int .i64 t0.fOp, .int .i64 t0.fN, .sl (List.map I t0.fType), .sl (List.map GTerm_S t0.fKids)]), (2, .box [.int .i64 0, .int .i64 0, .nils, .nils]), (3, .box [.int .i64 t0.fOp, .int .i64 out_5, .rs 6, .rs 17]), (6, .arr (List.map I out_26)), (17, .arr (List.map GTerm_O []))])))
          · refine WpL.into (e := (.exit 2)) (mkS [(1, .sl (List.map I l_34)), (4, .ra 2 0), (6, .ra 3 0)] [(2, .box [.int .i64 0, .int .i64 0, .nils, .nils]), (3, .box [.int .i64 t0.fOp, .int .i64 out_5, .rs 6, .rs 17]), (6, .arr (List.map I out_26)), (17, .arr (List.map GTerm_O out_35))]) hL ?_
            refine blockQ_hit ?_
            refine seqQ_norm ?_
            refine Wp.seqN (by kernel_rfl) ?_
            refine Wp.reg tiok mix hc (by kernel_rfl) (ah := none) (rs := [some (.no), some (.no), some (.no), some (.no)]) (kt := [4, 5]) (ko := [2, 6, 17]) (T' := [(4, .ra 2 0), (5, .sl (List.map I l_34))]) (O' := [(2, .box [.int .i64 t0.fOp, .int .i64 out_5, .rs 6, .rs 17]), (6, .arr (List.map I out_26)), (17, .arr (List.map GTerm_O out_35))]) (by kernel_rfl) trivial (by kernel_rfl) (by kernel_rfl) ?_
            refine seqQ_norm ?_
            refine Wp.retN (by kernel_rfl) ?_
            obtain rfl := Option.some.inj h
            exact RetQ.ret (fl := [true, false]) (by kernel_rfl)
  · rintro spec_l9Fill_f spec_l9Fill_l1_f spec_l9Fill_ih spec_l9Fill_l1_ih ⟨t0, out_5, out_26, l_29, out_32, k_30⟩ r h
    intro c hc
    show WpL Try.prog c (cl (cl (cr (cl (cr (cr (cr (cr B58)))))))) (spec_l9Fill_F2 c t0 out_5 out_26 r) (mkS [(1, .sl (List.map I l_29)), (2, .ra 1 0), (4, .ra 2 0), (6, .ra 3 0), (9, .int .i64 k_30)] [(1, .box [.int .i64 t0.fOp, .int .i64 t0.fN, .sl (List.map I t0.fType), .sl (List.map GTerm_S t0.fKids)]), (2, .box [.int .i64 0, .int .i64 0, .nils, .nils]), (3, .box [.int .i64 t0.fOp, .int .i64 out_5, .rs 6, .rs 17]), (6, .arr (List.map I out_26)), (17, .arr (List.map GTerm_O out_32))])
    refine WpL.step ?_
    refine Wp.seqN (by kernel_rfl) ?_
    refine Wp.seqN (by kernel_rfl) ?_
    refine Wp.reg tiok mix hc (by kernel_rfl) (ah := none) (rs := [some (.no), some (.no), some (.no), some (.eqv (.no) ⟨[(62, .int .i64 (t0.fKids.length : Int))], [], []⟩), some (.no)]) (kt := [1, 2, 4, 6, 9, 63]) (ko := [1, 2, 3, 6, 17]) (T' := [(1, .sl (List.map I l_29)), (2, .ra 1 0), (4, .ra 2 0), (6, .ra 3 0), (9, .int .i64 k_30), (63, .bool (decide (k_30 < (t0.fKids.length : Int))))]) (O' := [(1, .box [.int .i64 t0.fOp, .int .i64 t0.fN, .sl (List.map I t0.fType), .sl (List.map GTerm_S t0.fKids)]), (2, .box [.int .i64 0, .int .i64 0, .nils, .nils]), (3, .box [.int .i64 t0.fOp, .int .i64 out_5, .rs 6, .rs 17]), (6, .arr (List.map I out_26)), (17, .arr (List.map GTerm_O out_32))]) (by kernel_rfl) (And.intro (lenT (d := 62) GTerm_S t0.fKids) trivial) (by kernel_rfl) (by kernel_rfl) ?_
    refine seqQ_norm ?_
    rcases itesome h with ⟨hb_33, h⟩ | ⟨hb_33, h⟩
    · refine Wp.condT (b := (decide (k_30 < (t0.fKids.length : Int)))) (by kernel_rfl) (by kernel_rfl) hb_33 ?_
      refine Wp.skipN (by kernel_rfl) ?_
      refine seqQ_norm ?_
      refine Wp.seqN (by kernel_rfl) ?_
      refine Wp.blockN (i := 3) (by kernel_rfl) ?_
      refine Wp.seqN (by kernel_rfl) ?_
      obtain ⟨e_16_3, hi_16_3, h⟩ := bsome h
      obtain ⟨⟨r_16_6_0, r_16_6_1⟩, hr_16_6, h⟩ := bsome h
      refine Wp.reg tiok mix hc (by kernel_rfl) (ah := none) (rs := [some (.no), some (.no), some (.no), some (.el (.agg [.int .i64 e_16_3.fOp, .int .i64 e_16_3.fN, .sl (List.map I e_16_3.fType), .sl (List.map GTerm_S e_16_3.fKids)])), some (.no), some (.no), some (.call (.tup [.agg [.int .i64 r_16_6_0.fOp, .int .i64 r_16_6_0.fN, .osl (List.map I r_16_6_0.fType), .osl (List.map GTerm_O r_16_6_0.fKids)], .sl (List.map I r_16_6_1)]) [] 23), some (.no), some (.no), some (.no), some (.new 25), some (.no), some (.no)]) (kt := [2, 4, 6, 9, 10, 11]) (ko := [1, 2, 3, 6, 17, 23, 24, 25]) (T' := [(2, .ra 1 0), (4, .ra 2 0), (6, .ra 3 0), (9, .int .i64 k_30), (10, .ra 25 0), (11, .sl (List.map I r_16_6_1))]) (O' := [(1, .box [.int .i64 t0.fOp, .int .i64 t0.fN, .sl (List.map I t0.fType), .sl (List.map GTerm_S t0.fKids)]), (2, .box [.int .i64 0, .int .i64 0, .nils, .nils]), (3, .box [.int .i64 t0.fOp, .int .i64 out_5, .rs 6, .rs 17]), (6, .arr (List.map I out_26)), (17, .arr (List.map GTerm_O out_32)), (23, .arr (List.map I r_16_6_0.fType)), (24, .arr (List.map GTerm_O r_16_6_0.fKids)), (25, .box [.int .i64 r_16_6_0.fOp, .int .i64 r_16_6_0.fN, .rs 23, .rs 24])]) (by kernel_rfl) (And.intro (idx_sl (enc := GTerm_S) (x := .agg [.int .i64 e_16_3.fOp, .int .i64 e_16_3.fN, .sl (List.map I e_16_3.fType), .sl (List.map GTerm_S e_16_3.fKids)]) hi_16_3 (eq_GTerm_S e_16_3)) (And.intro (spec_l9Fill_ih _ _ hr_16_6) (And.intro bod_58 (And.intro (Or.inl rfl : ([] : List Nat) = [] ∨ noSh (.tup [.agg [.int .i64 r_16_6_0.fOp, .int .i64 r_16_6_0.fN, .osl (List.map I r_16_6_0.fType), .osl (List.map GTerm_O r_16_6_0.fKids)], .sl (List.map I r_16_6_1)]) = true) trivial)))) (by kernel_rfl) (by kernel_rfl) ?_
      refine seqQ_norm ?_
      refine Wp.seqN (by kernel_rfl) ?_
      obtain ⟨_, hk_17_4, h⟩ := bsome h
      refine Wp.reg tiok mix hc (by kernel_rfl) (ah := none) (rs := [some (.no), some (.no), some (.no), some (.eqv (.mk 26 true) ⟨[(79, .rs 26)], [(26, some (.arr (List.map GTerm_O [r_16_6_0]))), (23, none), (24, none)], [26]⟩), some (.eqv (.mk 27 true) ⟨[(80, .rs 27)], [(27, some (.arr (List.map GTerm_O (out_32 ++ [r_16_6_0])))), (17, none), (26, none)], [27]⟩), some (.no), some (.no)]) (kt := [2, 4, 6, 9, 11]) (ko := [1, 2, 3, 6, 27]) (T' := [(2, .ra 1 0), (4, .ra 2 0), (6, .ra 3 0), (9, .int .i64 k_30), (11, .sl (List.map I r_16_6_1))]) (O' := [(1, .box [.int .i64 t0.fOp, .int .i64 t0.fN, .sl (List.map I t0.fType), .sl (List.map GTerm_S t0.fKids)]), (2, .box [.int .i64 0, .int .i64 0, .nils, .nils]), (3, .box [.int .i64 t0.fOp, .int .i64 out_5, .rs 6, .rs 27]), (6, .arr (List.map I out_26)), (27, .arr (List.map GTerm_O (out_32 ++ [r_16_6_0])))]) (by kernel_rfl) (And.intro (congrArg (fun z => (⟨[(79, .rs 26)], [(26, some (.arr z)), (23, none), (24, none)], [26]⟩ : Wr)) ((rows1 (eq_GTerm_O r_16_6_0) rows0) : [AV.agg [.int .i64 r_16_6_0.fOp, .int .i64 r_16_6_0.fN, AV.osl (List.map I r_16_6_0.fType), AV.osl (List.map GTerm_O r_16_6_0.fKids)]] = List.map GTerm_O [r_16_6_0])) (And.intro (congrArg (fun z => (⟨[(80, .rs 27)], [(27, some (.arr z)), (17, none), (26, none)], [27]⟩ : Wr)) ((List.map_append).symm : (List.map GTerm_O out_32) ++ (List.map GTerm_O [r_16_6_0]) = List.map GTerm_O (out_32 ++ [r_16_6_0]))) (And.intro (app_ob (enc1 := GTerm_O) (enc2 := GTerm_O) (e1 := out_32) (e2 := [r_16_6_0]) (sz := 4) ek_GTerm_O ek_GTerm_O hk_17_4) trivial))) (by kernel_rfl) (by kernel_rfl) ?_
      refine seqQ_norm ?_
      refine Wp.reg tiok mix hc (by kernel_rfl) (ah := none) (rs := [some (.no), some (.no)]) (kt := [1, 2, 4, 6, 9]) (ko := [1, 2, 3, 6, 27]) (T' := [(1, .sl (List.map I r_16_6_1)), (2, .ra 1 0), (4, .ra 2 0), (6, .ra 3 0), (9, .int .i64 k_30)]) (O' := [(1, .box [.int .i64 t0.fOp, .int .i64 t0.fN, .sl (List.map I t0.fType), .sl (List.map GTerm_S t0.fKids)]), (2, .box [.int .i64 0, .int .i64 0, .nils, .nils]), (3, .box [.int .i64 t0.fOp, .int .i64 out_5, .rs 6, .rs 27]), (6, .arr (List.map I out_26)), (27, .arr (List.map GTerm_O (out_32 ++ [r_16_6_0])))]) (by kernel_rfl) trivial (by kernel_rfl) (by kernel_rfl) ?_
      refine blockQ_norm ?_
      refine seqQ_norm ?_
      refine Wp.reg tiok mix hc (by kernel_rfl) (ah := none) (rs := [some (.no), some (.no), some (.no)]) (kt := [1, 2, 4, 6, 9]) (ko := [1, 2, 3, 6, 27]) (T' := [(1, .sl (List.map I r_16_6_1)), (2, .ra 1 0), (4, .ra 2 0), (6, .ra 3 0), (9, .int .i64 (wr (k_30 + 1)))]) (O' := [(1, .box [.int .i64 t0.fOp, .int .i64 t0.fN, .sl (List.map I t0.fType), .sl (List.map GTerm_S t0.fKids)]), (2, .box [.int .i64 0, .int .i64 0, .nils, .nils]), (3, .box [.int .i64 t0.fOp, .int .i64 out_5, .rs 6, .rs 27]), (6, .arr (List.map I out_26)), (27, .arr (List.map GTerm_O (out_32 ++ [r_16_6_0])))]) (by kernel_rfl) trivial (by kernel_rfl) (by kernel_rfl) ?_
      refine loopQ_norm ?_
      exact WpL.view (fun a w hv => SRx.renL [(17, 27)] hv (by kernel_rfl) (by kernel_rfl) (by kernel_rfl)) (spec_l9Fill_l1_ih _ _ h c hc)
    · refine Wp.condF (b := (decide (k_30 < (t0.fKids.length : Int)))) (by kernel_rfl) (by kernel_rfl) hb_33 ?_
      refine Wp.exitN (i := 2) (by kernel_rfl) ?_
      refine seqQ_exit ?_
      refine loopQ_exit ?_
      obtain ⟨rfl, rfl⟩ := Prod.mk.inj (Option.some.inj h)
      exact Into.view (fun a w hv => SRx.renL [] hv (by kernel_rfl) (by kernel_rfl) (by kernel_rfl))
theorem spec_l9Fill_s : ∀ p r, spec_l9Fill p = some r → M_spec_l9Fill p r := spec_l9Fill_all.1
theorem spec_l9Fill_l1_s : ∀ p r, spec_l9Fill_l1 p = some r → M_spec_l9Fill_l1 p r := spec_l9Fill_all.2
def spec_FillOpen_F1 (c : Ctx) (t0 : GTerm) (l1 : List Int) : (Unit) ⊕ ((GTerm × Bool)) → Exit → AState → Prop
  | .inl _ => Into c (.exit 0) (mkS [(1, .sl (List.map I l1)), (2, .ra 1 0), (4, .ra 2 0)] [(1, .box [.int .i64 t0.fOp, .int .i64 t0.fN, .sl (List.map I t0.fType), .sl (List.map GTerm_S t0.fKids)]), (2, .box [.int .i64 0, .int .i64 0, .nils, .nils])])
  | .inr r => RetE TIx Try.f24 [] (.tup [.agg [.int .i64 r.1.fOp, .int .i64 r.1.fN, .osl (List.map I r.1.fType), .osl (List.map GTerm_O r.1.fKids)], .bool r.2])
def spec_FillOpen_l0 (p : GTerm × (List Int) × Int) : Option ((Unit) ⊕ ((GTerm × Bool))) :=
  match p with
  | (t0, l1, i_4) =>
    if (decide (i_4 < (l1.length : Int))) = true then
      (idx l1 i_4) >>= fun e_6_2 =>
      (spec_l1In (e_6_2, 0, 15)) >>= fun r_6_4 =>
      if r_6_4 = true then
        spec_FillOpen_l0 (t0, l1, (wr (i_4 + 1)))
      else
        some (.inr ((GTerm.mk 0 0 [] []), false))
    else
      some (.inl ())
  partial_fixpoint
def M_spec_FillOpen_l0 (p : GTerm × (List Int) × Int) (fl : (Unit) ⊕ ((GTerm × Bool))) : Prop :=
  match p with
  | (t0, l1, i_4) => ∀ c : Ctx, c.nt = 35 → WpL Try.prog c (cl (cl (cr (cl (cr (cr B24)))))) (spec_FillOpen_F1 c t0 l1 fl) (mkS [(1, .sl (List.map I l1)), (2, .ra 1 0), (4, .ra 2 0), (6, .int .i64 i_4)] [(1, .box [.int .i64 t0.fOp, .int .i64 t0.fN, .sl (List.map I t0.fType), .sl (List.map GTerm_S t0.fKids)]), (2, .box [.int .i64 0, .int .i64 0, .nils, .nils])])
theorem spec_FillOpen_l0_s : ∀ p r, spec_FillOpen_l0 p = some r → M_spec_FillOpen_l0 p r := by
  refine spec_FillOpen_l0.partial_correctness M_spec_FillOpen_l0 ?_
  rintro spec_FillOpen_l0_f spec_FillOpen_l0_ih ⟨t0, l1, i_4⟩ r h
  intro c hc
  show WpL Try.prog c (cl (cl (cr (cl (cr (cr B24)))))) (spec_FillOpen_F1 c t0 l1 r) (mkS [(1, .sl (List.map I l1)), (2, .ra 1 0), (4, .ra 2 0), (6, .int .i64 i_4)] [(1, .box [.int .i64 t0.fOp, .int .i64 t0.fN, .sl (List.map I t0.fType), .sl (List.map GTerm_S t0.fKids)]), (2, .box [.int .i64 0, .int .i64 0, .nils, .nils])])
  refine WpL.step ?_
  refine Wp.seqN (by kernel_rfl) ?_
  refine Wp.seqN (by kernel_rfl) ?_
  refine Wp.reg tiok mix hc (by kernel_rfl) (ah := none) (rs := [some (.no), some (.no), some (.eqv (.no) ⟨[(17, .int .i64 (l1.length : Int))], [], []⟩), some (.no)]) (kt := [1, 2, 4, 6, 18]) (ko := [1, 2]) (T' := [(1, .sl (List.map I l1)), (2, .ra 1 0), (4, .ra 2 0), (6, .int .i64 i_4), (18, .bool (decide (i_4 < (l1.length : Int))))]) (O' := [(1, .box [.int .i64 t0.fOp, .int .i64 t0.fN, .sl (List.map I t0.fType), .sl (List.map GTerm_S t0.fKids)]), (2, .box [.int .i64 0, .int .i64 0, .nils, .nils])]) (by kernel_rfl) (And.intro (lenT (d := 17) I l1) trivial) (by kernel_rfl) (by kernel_rfl) ?_
  refine seqQ_norm ?_
  rcases itesome h with ⟨hb_5, h⟩ | ⟨hb_5, h⟩
  · refine Wp.condT (b := (decide (i_4 < (l1.length : Int)))) (by kernel_rfl) (by kernel_rfl) hb_5 ?_
    refine Wp.skipN (by kernel_rfl) ?_
    refine seqQ_norm ?_
    refine Wp.seqN (by kernel_rfl) ?_
    refine Wp.blockN (i := 1) (by kernel_rfl) ?_
    refine Wp.seqN (by kernel_rfl) ?_
    obtain ⟨e_6_2, hi_6_2, h⟩ := bsome h
    obtain ⟨r_6_4, hr_6_4, h⟩ := bsome h
    refine Wp.reg tiok mix hc (by kernel_rfl) (ah := none) (rs := [some (.no), some (.no), some (.el (.int .i64 e_6_2)), some (.no), some (.call (.bool r_6_4) [] 1), some (.no)]) (kt := [1, 2, 4, 6, 26]) (ko := [1, 2]) (T' := [(1, .sl (List.map I l1)), (2, .ra 1 0), (4, .ra 2 0), (6, .int .i64 i_4), (26, .bool (!r_6_4))]) (O' := [(1, .box [.int .i64 t0.fOp, .int .i64 t0.fN, .sl (List.map I t0.fType), .sl (List.map GTerm_S t0.fKids)]), (2, .box [.int .i64 0, .int .i64 0, .nils, .nils])]) (by kernel_rfl) (And.intro (idx_sl (enc := I) (x := .int .i64 e_6_2) hi_6_2 (eq_I e_6_2)) (And.intro (spec_l1In_s _ _ hr_6_4) (And.intro bod_57 (And.intro (Or.inl rfl : ([] : List Nat) = [] ∨ noSh (.bool r_6_4) = true) trivial)))) (by kernel_rfl) (by kernel_rfl) ?_
    refine seqQ_norm ?_
    rcases itesome h with ⟨hb_6, h⟩ | ⟨hb_6, h⟩
    · refine Wp.condF (b := (!r_6_4)) (by kernel_rfl) (by kernel_rfl) (nF hb_6) ?_
      refine Wp.skipN (by kernel_rfl) ?_
      refine blockQ_norm ?_
      refine seqQ_norm ?_
      refine Wp.reg tiok mix hc (by kernel_rfl) (ah := none) (rs := [some (.no), some (.no), some (.no)]) (kt := [1, 2, 4, 6]) (ko := [1, 2]) (T' := [(1, .sl (List.map I l1)), (2, .ra 1 0), (4, .ra 2 0), (6, .int .i64 (wr (i_4 + 1)))]) (O' := [(1, .box [.int .i64 t0.fOp, .int .i64 t0.fN, .sl (List.map I t0.fType), .sl (List.map GTerm_S t0.fKids)]), (2, .box [.int .i64 0, .int .i64 0, .nils, .nils])]) (by kernel_rfl) trivial (by kernel_rfl) (by kernel_rfl) ?_
      refine loopQ_norm ?_
      exact (spec_FillOpen_l0_ih _ _ h c hc)
    · refine Wp.condT (b := (!r_6_4)) (by kernel_rfl) (by kernel_rfl) (nT hb_6) ?_
      refine Wp.seqN (by kernel_rfl) ?_
      refine Wp.reg tiok mix hc (by kernel_rfl) (ah := none) (rs := [some (.no), some (.no), some (.no)]) (kt := [4, 5]) (ko := [2]) (T' := [(4, .ra 2 0), (5, .bool false)]) (O' := [(2, .box [.int .i64 0, .int .i64 0, .nils, .nils])]) (by kernel_rfl) trivial (by kernel_rfl) (by kernel_rfl) ?_
      refine seqQ_norm ?_
      refine Wp.retN (by kernel_rfl) ?_
      refine blockQ_ret ?_
      refine seqQ_ret ?_
      refine loopQ_ret ?_
      obtain rfl := Option.some.inj h
      exact RetE.ret (fl := [true, true]) (by kernel_rfl)
  · refine Wp.condF (b := (decide (i_4 < (l1.length : Int)))) (by kernel_rfl) (by kernel_rfl) hb_5 ?_
    refine Wp.exitN (i := 0) (by kernel_rfl) ?_
    refine seqQ_exit ?_
    refine loopQ_exit ?_
    obtain rfl := Option.some.inj h
    exact Into.view (fun a w hv => SRx.renL [] hv (by kernel_rfl) (by kernel_rfl) (by kernel_rfl))
end Go.Am
