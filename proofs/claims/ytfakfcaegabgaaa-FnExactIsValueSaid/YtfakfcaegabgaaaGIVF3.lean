/- Functions of the program as pure functions, and that it computes them. Printed by a program of mine (gen.py). -/
import Derived.Test.YtfakfcaegabgaaaGIVF2
set_option linter.unusedVariables false
set_option linter.unusedSimpArgs false
set_option maxRecDepth 100000
namespace Go.Am
open Go Go.Proofs
mutual
def spec_l2Term (p : GTerm × Int × Int × Bool) : Option (Bool) :=
  match p with
  | (t0, n1, size2, closed3) =>
    (spec_l2Node (t0, n1, size2, closed3)) >>= fun r_1_4 =>
    if r_1_4 = true then
      (spec_l2Term_l0 (t0, n1, size2, closed3, 0)) >>= fun fl => match fl with
      | .inl () =>
        some true
      | .inr r =>
        some r
    else
      some false
  partial_fixpoint
def spec_l2Term_l0 (p : GTerm × Int × Int × Bool × Int) : Option ((Unit) ⊕ (Bool)) :=
  match p with
  | (t0, n1, size2, closed3, k_4) =>
    if (decide (k_4 < (t0.fKids.length : Int))) = true then
      (idx t0.fKids k_4) >>= fun e_6_3 =>
      (spec_l2Adds (t0.fOp, k_4)) >>= fun r_6_9 =>
      (spec_l2Term (e_6_3, (wr (n1 + r_6_9)), size2, closed3)) >>= fun r_6_13 =>
      if r_6_13 = true then
        spec_l2Term_l0 (t0, n1, size2, closed3, (wr (k_4 + 1)))
      else
        some (.inr false)
    else
      some (.inl ())
  partial_fixpoint
end
def M_spec_l2Term (p : GTerm × Int × Int × Bool) (r : Bool) : Prop :=
  match p with
  | (t0, n1, size2, closed3) => FnSound Try.prog 85 [.agg [.int .i64 t0.fOp, .int .i64 t0.fN, .sl (List.map I t0.fType), .sl (List.map GTerm_S t0.fKids)], .int .i64 n1, .int .i64 size2, .bool closed3] (.bool r) []
def M_spec_l2Term_l0 (p : GTerm × Int × Int × Bool × Int) (fl : (Unit) ⊕ (Bool)) : Prop :=
  match p with
  | (t0, n1, size2, closed3, k_4) => ∀ c : Ctx, c.nt = 38 → WpL Try.prog c (cl (cl (cr (cl (cr (cr B85)))))) (spec_l2Term_F1 c fl) (mkS [(1, .int .i64 n1), (2, .int .i64 size2), (3, .bool closed3), (4, .ra 1 0), (9, .int .i64 k_4)] [(1, .box [.int .i64 t0.fOp, .int .i64 t0.fN, .sl (List.map I t0.fType), .sl (List.map GTerm_S t0.fKids)])])
theorem spec_l2Term_all : (∀ p r, spec_l2Term p = some r → M_spec_l2Term p r) ∧ (∀ p r, spec_l2Term_l0 p = some r → M_spec_l2Term_l0 p r) := by
  refine spec_l2Term.mutual_partial_correctness M_spec_l2Term M_spec_l2Term_l0 ?_ ?_
  · rintro spec_l2Term_l0_f spec_l2Term_l0_ih ⟨t0, n1, size2, closed3⟩ r h
    show FnSound Try.prog 85 [.agg [.int .i64 t0.fOp, .int .i64 t0.fN, .sl (List.map I t0.fType), .sl (List.map GTerm_S t0.fKids)], .int .i64 n1, .int .i64 size2, .bool closed3] (.bool r) []
    refine FnSound.body0 tiok (fn := Try.f85) (code := B85) (by kernel_rfl) (by kernel_rfl) (by kernel_rfl) (by kernel_rfl) (nt := 38) (by kernel_rfl) (by kernel_rfl) (T := [(0, .agg [.int .i64 t0.fOp, .int .i64 t0.fN, .sl (List.map I t0.fType), .sl (List.map GTerm_S t0.fKids)]), (1, .int .i64 n1), (2, .int .i64 size2), (3, .bool closed3)]) (O := []) (by kernel_rfl) (by kernel_rfl) (fun c hc => ?_)
    refine Wp.seqN (by kernel_rfl) ?_
    refine Wp.reg tiok mix hc (by kernel_rfl) (ah := none) (rs := [some (.new 1), some (.no)]) (kt := [1, 2, 3, 4]) (ko := [1]) (T' := [(1, .int .i64 n1), (2, .int .i64 size2), (3, .bool closed3), (4, .ra 1 0)]) (O' := [(1, .box [.int .i64 t0.fOp, .int .i64 t0.fN, .sl (List.map I t0.fType), .sl (List.map GTerm_S t0.fKids)])]) (by kernel_rfl) trivial (by kernel_rfl) (by kernel_rfl) ?_
    refine seqQ_norm ?_
    refine Wp.seqN (by kernel_rfl) ?_
    refine Wp.seqN (by kernel_rfl) ?_
    obtain ⟨r_1_4, hr_1_4, h⟩ := bsome h
    refine Wp.reg tiok mix hc (by kernel_rfl) (ah := none) (rs := [some (.no), some (.no), some (.no), some (.no), some (.call (.bool r_1_4) [] 1), some (.no)]) (kt := [1, 2, 3, 4, 15]) (ko := [1]) (T' := [(1, .int .i64 n1), (2, .int .i64 size2), (3, .bool closed3), (4, .ra 1 0), (15, .bool (!r_1_4))]) (O' := [(1, .box [.int .i64 t0.fOp, .int .i64 t0.fN, .sl (List.map I t0.fType), .sl (List.map GTerm_S t0.fKids)])]) (by kernel_rfl) (And.intro (spec_l2Node_s _ _ hr_1_4) (And.intro bod_133 (And.intro (Or.inl rfl : ([] : List Nat) = [] ∨ noSh (.bool r_1_4) = true) trivial))) (by kernel_rfl) (by kernel_rfl) ?_
    refine seqQ_norm ?_
    rcases itesome h with ⟨hb_1, h⟩ | ⟨hb_1, h⟩
    · refine Wp.condF (b := (!r_1_4)) (by kernel_rfl) (by kernel_rfl) (nF hb_1) ?_
      refine Wp.skipN (by kernel_rfl) ?_
      refine seqQ_norm ?_
      refine Wp.seqN (by kernel_rfl) ?_
      refine Wp.seqN (by kernel_rfl) ?_
      refine Wp.reg tiok mix hc (by kernel_rfl) (ah := none) (rs := [some (.no)]) (kt := [1, 2, 3, 4, 9]) (ko := [1]) (T' := [(1, .int .i64 n1), (2, .int .i64 size2), (3, .bool closed3), (4, .ra 1 0), (9, .int .i64 0)]) (O' := [(1, .box [.int .i64 t0.fOp, .int .i64 t0.fN, .sl (List.map I t0.fType), .sl (List.map GTerm_S t0.fKids)])]) (by kernel_rfl) trivial (by kernel_rfl) (by kernel_rfl) ?_
      refine seqQ_norm ?_
      refine Wp.blockN (i := 0) (by kernel_rfl) ?_
      obtain ⟨fl, hl_7, h⟩ := bsome h
      have hL := spec_l2Term_l0_ih _ _ hl_7 c hc
      refine Wp.loopN (by kernel_rfl) ?_
      rcases fl with ⟨⟩ | r
      · refine WpL.into (e := (.exit 0)) (mkS [] []) hL ?_
        refine blockQ_hit ?_
        refine seqQ_norm ?_
        refine Wp.seqN (by kernel_rfl) ?_
        refine Wp.reg tiok mix hc (by kernel_rfl) (ah := none) (rs := [some (.no)]) (kt := [8]) (ko := []) (T' := [(8, .bool true)]) (O' := []) (by kernel_rfl) trivial (by kernel_rfl) (by kernel_rfl) ?_
        refine seqQ_norm ?_
        refine Wp.retN (by kernel_rfl) ?_
        obtain rfl := Option.some.inj h
        exact RetQ.ret (fl := [true]) (by kernel_rfl)
      · refine WpL.mono hL ?_
        rintro _ _ ⟨rfl, hfin⟩
        refine blockQ_ret ?_
        refine seqQ_ret ?_
        obtain rfl := Option.some.inj h
        exact ⟨.inl rfl, hfin⟩
    · refine Wp.condT (b := (!r_1_4)) (by kernel_rfl) (by kernel_rfl) (nT hb_1) ?_
      refine Wp.seqN (by kernel_rfl) ?_
      refine Wp.reg tiok mix hc (by kernel_rfl) (ah := none) (rs := [some (.no)]) (kt := [8]) (ko := []) (T' := [(8, .bool false)]) (O' := []) (by kernel_rfl) trivial (by kernel_rfl) (by kernel_rfl) ?_
      refine seqQ_norm ?_
      refine Wp.retN (by kernel_rfl) ?_
      refine seqQ_ret ?_
      obtain rfl := Option.some.inj h
      exact RetQ.ret (fl := [true]) (by kernel_rfl)
  · rintro spec_l2Term_f spec_l2Term_l0_f spec_l2Term_ih spec_l2Term_l0_ih ⟨t0, n1, size2, closed3, k_4⟩ r h
    intro c hc
    show WpL Try.prog c (cl (cl (cr (cl (cr (cr B85)))))) (spec_l2Term_F1 c r) (mkS [(1, .int .i64 n1), (2, .int .i64 size2), (3, .bool closed3), (4, .ra 1 0), (9, .int .i64 k_4)] [(1, .box [.int .i64 t0.fOp, .int .i64 t0.fN, .sl (List.map I t0.fType), .sl (List.map GTerm_S t0.fKids)])])
    refine WpL.step ?_
    refine Wp.seqN (by kernel_rfl) ?_
    refine Wp.seqN (by kernel_rfl) ?_
    refine Wp.reg tiok mix hc (by kernel_rfl) (ah := none) (rs := [some (.no), some (.no), some (.no), some (.eqv (.no) ⟨[(19, .int .i64 (t0.fKids.length : Int))], [], []⟩), some (.no)]) (kt := [1, 2, 3, 4, 9, 20]) (ko := [1]) (T' := [(1, .int .i64 n1), (2, .int .i64 size2), (3, .bool closed3), (4, .ra 1 0), (9, .int .i64 k_4), (20, .bool (decide (k_4 < (t0.fKids.length : Int))))]) (O' := [(1, .box [.int .i64 t0.fOp, .int .i64 t0.fN, .sl (List.map I t0.fType), .sl (List.map GTerm_S t0.fKids)])]) (by kernel_rfl) (And.intro (lenT (d := 19) GTerm_S t0.fKids) trivial) (by kernel_rfl) (by kernel_rfl) ?_
    refine seqQ_norm ?_
    rcases itesome h with ⟨hb_5, h⟩ | ⟨hb_5, h⟩
    · refine Wp.condT (b := (decide (k_4 < (t0.fKids.length : Int)))) (by kernel_rfl) (by kernel_rfl) hb_5 ?_
      refine Wp.skipN (by kernel_rfl) ?_
      refine seqQ_norm ?_
      refine Wp.seqN (by kernel_rfl) ?_
      refine Wp.blockN (i := 1) (by kernel_rfl) ?_
      refine Wp.seqN (by kernel_rfl) ?_
      obtain ⟨e_6_3, hi_6_3, h⟩ := bsome h
      obtain ⟨r_6_9, hr_6_9, h⟩ := bsome h
      obtain ⟨r_6_13, hr_6_13, h⟩ := bsome h
      refine Wp.reg tiok mix hc (by kernel_rfl) (ah := (some [[], [0], [], [0, 1, 2], [0, 1, 2, 3], [], [], [6], [], [6, 7, 8], [5, 6, 7, 8, 9], [], [], [0, 1, 2, 3, 4, 5, 6, 7, 8, 9, 10, 11, 12], [0, 1, 2, 3, 4, 5, 6, 7, 8, 9, 10, 11, 12, 13]])) (rs := [some (.no), some (.no), some (.no), some (.el (.agg [.int .i64 e_6_3.fOp, .int .i64 e_6_3.fN, .sl (List.map I e_6_3.fType), .sl (List.map GTerm_S e_6_3.fKids)])), some (.no), some (.no), some (.no), some (.no), some (.no), some (.call (.int .i64 r_6_9) [] 1), some (.no), some (.no), some (.no), some (.call (.bool r_6_13) [] 1), some (.no)]) (kt := [1, 2, 3, 4, 9, 37]) (ko := [1]) (T' := [(1, .int .i64 n1), (2, .int .i64 size2), (3, .bool closed3), (4, .ra 1 0), (9, .int .i64 k_4), (37, .bool (!r_6_13))]) (O' := [(1, .box [.int .i64 t0.fOp, .int .i64 t0.fN, .sl (List.map I t0.fType), .sl (List.map GTerm_S t0.fKids)])]) (by kernel_rfl) (And.intro (idx_sl (enc := GTerm_S) (x := .agg [.int .i64 e_6_3.fOp, .int .i64 e_6_3.fN, .sl (List.map I e_6_3.fType), .sl (List.map GTerm_S e_6_3.fKids)]) hi_6_3 (eq_GTerm_S e_6_3)) (And.intro (spec_l2Adds_s _ _ hr_6_9) (And.intro bod_134 (And.intro (Or.inl rfl : ([] : List Nat) = [] ∨ noSh (.int .i64 r_6_9) = true) (And.intro (spec_l2Term_ih _ _ hr_6_13) (And.intro bod_85 (And.intro (Or.inl rfl : ([] : List Nat) = [] ∨ noSh (.bool r_6_13) = true) trivial))))))) (by kernel_rfl) (by kernel_rfl) ?_
      refine seqQ_norm ?_
      rcases itesome h with ⟨hb_6, h⟩ | ⟨hb_6, h⟩
      · refine Wp.condF (b := (!r_6_13)) (by kernel_rfl) (by kernel_rfl) (nF hb_6) ?_
        refine Wp.skipN (by kernel_rfl) ?_
        refine blockQ_norm ?_
        refine seqQ_norm ?_
        refine Wp.reg tiok mix hc (by kernel_rfl) (ah := none) (rs := [some (.no), some (.no), some (.no)]) (kt := [1, 2, 3, 4, 9]) (ko := [1]) (T' := [(1, .int .i64 n1), (2, .int .i64 size2), (3, .bool closed3), (4, .ra 1 0), (9, .int .i64 (wr (k_4 + 1)))]) (O' := [(1, .box [.int .i64 t0.fOp, .int .i64 t0.fN, .sl (List.map I t0.fType), .sl (List.map GTerm_S t0.fKids)])]) (by kernel_rfl) trivial (by kernel_rfl) (by kernel_rfl) ?_
        refine loopQ_norm ?_
        exact (spec_l2Term_l0_ih _ _ h c hc)
      · refine Wp.condT (b := (!r_6_13)) (by kernel_rfl) (by kernel_rfl) (nT hb_6) ?_
        refine Wp.seqN (by kernel_rfl) ?_
        refine Wp.reg tiok mix hc (by kernel_rfl) (ah := none) (rs := [some (.no)]) (kt := [8]) (ko := []) (T' := [(8, .bool false)]) (O' := []) (by kernel_rfl) trivial (by kernel_rfl) (by kernel_rfl) ?_
        refine seqQ_norm ?_
        refine Wp.retN (by kernel_rfl) ?_
        refine blockQ_ret ?_
        refine seqQ_ret ?_
        refine loopQ_ret ?_
        obtain rfl := Option.some.inj h
        exact RetE.ret (fl := [true]) (by kernel_rfl)
    · refine Wp.condF (b := (decide (k_4 < (t0.fKids.length : Int)))) (by kernel_rfl) (by kernel_rfl) hb_5 ?_
      refine Wp.exitN (i := 0) (by kernel_rfl) ?_
      refine seqQ_exit ?_
      refine loopQ_exit ?_
      obtain rfl := Option.some.inj h
      exact Into.view (fun a w hv => SRx.renL [] hv (by kernel_rfl) (by kernel_rfl) (by kernel_rfl))
theorem spec_l2Term_s : ∀ p r, spec_l2Term p = some r → M_spec_l2Term p r := spec_l2Term_all.1
theorem spec_l2Term_l0_s : ∀ p r, spec_l2Term_l0 p = some r → M_spec_l2Term_l0 p r := spec_l2Term_all.2
def spec_IsTerm (p : GSystem × GTerm × Int) : Option (Bool) :=
  match p with
  | (s0, t1, n2) =>
    (
      (spec_IsSystem s0) >>= fun r_1_1 =>
      if r_1_1 = true then
        (spec_l1In (n2, 0, 8)) >>= fun r_1_4 =>
        if r_1_4 = true then
          (spec_l2Left (t1, 400)) >>= fun r_1_8 =>
          if (decide (r_1_8 ≥ 0)) = true then
            (spec_l2Term (t1, n2, s0.fSize, true)) >>= fun r_1_16 =>
            some (r_1_16)
          else
            some (false)
        else
          some (false)
      else
        some (false)
    ) >>= fun v_1 =>
    some v_1
def M_spec_IsTerm (p : GSystem × GTerm × Int) (r : Bool) : Prop :=
  match p with
  | (s0, t1, n2) => FnSound Try.prog 73 [.agg [.int .i64 s0.fSize, .sl (List.map I s0.fPlus), .sl (List.map I s0.fTimes), .sl (List.map AV.bool s0.fBelow)], .agg [.int .i64 t1.fOp, .int .i64 t1.fN, .sl (List.map I t1.fType), .sl (List.map GTerm_S t1.fKids)], .int .i64 n2] (.bool r) []
theorem spec_IsTerm_s : ∀ p r, spec_IsTerm p = some r → M_spec_IsTerm p r := by
  rintro ⟨s0, t1, n2⟩ r h
  unfold spec_IsTerm at h
  show FnSound Try.prog 73 [.agg [.int .i64 s0.fSize, .sl (List.map I s0.fPlus), .sl (List.map I s0.fTimes), .sl (List.map AV.bool s0.fBelow)], .agg [.int .i64 t1.fOp, .int .i64 t1.fN, .sl (List.map I t1.fType), .sl (List.map GTerm_S t1.fKids)], .int .i64 n2] (.bool r) []
  refine FnSound.body0 tiok (fn := Try.f73) (code := B73) (by kernel_rfl) (by kernel_rfl) (by kernel_rfl) (by kernel_rfl) (nt := 25) (by kernel_rfl) (by kernel_rfl) (T := [(0, .agg [.int .i64 s0.fSize, .sl (List.map I s0.fPlus), .sl (List.map I s0.fTimes), .sl (List.map AV.bool s0.fBelow)]), (1, .agg [.int .i64 t1.fOp, .int .i64 t1.fN, .sl (List.map I t1.fType), .sl (List.map GTerm_S t1.fKids)]), (2, .int .i64 n2)]) (O := []) (by kernel_rfl) (by kernel_rfl) (fun c hc => ?_)
  refine Wp.seqN (by kernel_rfl) ?_
  refine Wp.reg tiok mix hc (by kernel_rfl) (ah := none) (rs := [some (.new 1), some (.new 2), some (.no)]) (kt := [2, 3, 4]) (ko := [1, 2]) (T' := [(2, .int .i64 n2), (3, .ra 1 0), (4, .ra 2 0)]) (O' := [(1, .box [.int .i64 s0.fSize, .sl (List.map I s0.fPlus), .sl (List.map I s0.fTimes), .sl (List.map AV.bool s0.fBelow)]), (2, .box [.int .i64 t1.fOp, .int .i64 t1.fN, .sl (List.map I t1.fType), .sl (List.map GTerm_S t1.fKids)])]) (by kernel_rfl) trivial (by kernel_rfl) (by kernel_rfl) ?_
  refine seqQ_norm ?_
  refine Wp.seqN (by kernel_rfl) ?_
  obtain ⟨v_1, hj_2, h⟩ := bsome h
  refine Wp.into (x := .normal) (mkS [(6, .bool v_1)] []) ?_ ?_
  · replace h := hj_2
    obtain ⟨r_1_1, hr_1_1, h⟩ := bsome h
    rcases itesome h with ⟨hb_1_0, h⟩ | ⟨hb_1_0, h⟩
    · obtain ⟨r_1_4, hr_1_4, h⟩ := bsome h
      rcases itesome h with ⟨hb_1_1, h⟩ | ⟨hb_1_1, h⟩
      · obtain ⟨r_1_8, hr_1_8, h⟩ := bsome h
        rcases itesome h with ⟨hb_1_2, h⟩ | ⟨hb_1_2, h⟩
        · obtain ⟨r_1_16, hr_1_16, h⟩ := bsome h
          refine Wp.reg tiok mix hc (by kernel_rfl) (ah := none) (rs := [some (.no), some (.call (.bool r_1_1) [] 1), some (.no), some (.no), some (.call (.bool r_1_4) [] 1), some (.cond true), some (.no), some (.no), some (.call (.int .i64 r_1_8) [] 1), some (.no), some (.cond true), some (.no), some (.no), some (.no), some (.no), some (.no), some (.call (.bool r_1_16) [] 1), some (.cond true), some (.no)]) (kt := [6]) (ko := []) (T' := [(6, .bool r_1_16)]) (O' := []) (by kernel_rfl) (And.intro (spec_IsSystem_s _ _ hr_1_1) (And.intro bod_98 (And.intro (Or.inl rfl : ([] : List Nat) = [] ∨ noSh (.bool r_1_1) = true) (And.intro hb_1_0 (And.intro hb_1_0 (And.intro (spec_l1In_s _ _ hr_1_4) (And.intro bod_57 (And.intro (Or.inl rfl : ([] : List Nat) = [] ∨ noSh (.bool r_1_4) = true) (And.intro hb_1_0 (And.intro hb_1_1 (And.intro hb_1_1 (And.intro (spec_l2Left_s _ _ hr_1_8) (And.intro bod_84 (And.intro (Or.inl rfl : ([] : List Nat) = [] ∨ noSh (.int .i64 r_1_8) = true) (And.intro hb_1_1 (And.intro hb_1_1 (And.intro hb_1_2 (And.intro hb_1_2 (And.intro hb_1_2 (And.intro hb_1_2 (And.intro hb_1_2 (And.intro (spec_l2Term_s _ _ hr_1_16) (And.intro bod_85 (And.intro (Or.inl rfl : ([] : List Nat) = [] ∨ noSh (.bool r_1_16) = true) (And.intro hb_1_2 trivial))))))))))))))))))))))))) (by kernel_rfl) (by kernel_rfl) ?_
          obtain rfl := Option.some.inj h
          exact Into.mk
        · refine Wp.reg tiok mix hc (by kernel_rfl) (ah := none) (rs := [some (.no), some (.call (.bool r_1_1) [] 1), some (.no), some (.no), some (.call (.bool r_1_4) [] 1), some (.cond true), some (.no), some (.no), some (.call (.int .i64 r_1_8) [] 1), some (.no), some (.cond true), some (.no), none, none, none, none, none, some (.cond false), some (.no)]) (kt := [6]) (ko := []) (T' := [(6, .bool false)]) (O' := []) (by kernel_rfl) (And.intro (spec_IsSystem_s _ _ hr_1_1) (And.intro bod_98 (And.intro (Or.inl rfl : ([] : List Nat) = [] ∨ noSh (.bool r_1_1) = true) (And.intro hb_1_0 (And.intro hb_1_0 (And.intro (spec_l1In_s _ _ hr_1_4) (And.intro bod_57 (And.intro (Or.inl rfl : ([] : List Nat) = [] ∨ noSh (.bool r_1_4) = true) (And.intro hb_1_0 (And.intro hb_1_1 (And.intro hb_1_1 (And.intro (spec_l2Left_s _ _ hr_1_8) (And.intro bod_84 (And.intro (Or.inl rfl : ([] : List Nat) = [] ∨ noSh (.int .i64 r_1_8) = true) (And.intro hb_1_1 (And.intro hb_1_1 (And.intro (neT hb_1_2 : (decide (r_1_8 ≥ 0)) ≠ true) (And.intro (neT hb_1_2 : (decide (r_1_8 ≥ 0)) ≠ true) (And.intro (neT hb_1_2 : (decide (r_1_8 ≥ 0)) ≠ true) (And.intro (neT hb_1_2 : (decide (r_1_8 ≥ 0)) ≠ true) (And.intro (neT hb_1_2 : (decide (r_1_8 ≥ 0)) ≠ true) (And.intro hb_1_2 trivial)))))))))))))))))))))) (by kernel_rfl) (by kernel_rfl) ?_
          obtain rfl := Option.some.inj h
          exact Into.mk
      · refine Wp.reg tiok mix hc (by kernel_rfl) (ah := none) (rs := [some (.no), some (.call (.bool r_1_1) [] 1), some (.no), some (.no), some (.call (.bool r_1_4) [] 1), some (.cond true), some (.no), none, none, none, some (.cond false), some (.no), none, none, none, none, none, some (.cond false), some (.no)]) (kt := [6]) (ko := []) (T' := [(6, .bool false)]) (O' := []) (by kernel_rfl) (And.intro (spec_IsSystem_s _ _ hr_1_1) (And.intro bod_98 (And.intro (Or.inl rfl : ([] : List Nat) = [] ∨ noSh (.bool r_1_1) = true) (And.intro hb_1_0 (And.intro hb_1_0 (And.intro (spec_l1In_s _ _ hr_1_4) (And.intro bod_57 (And.intro (Or.inl rfl : ([] : List Nat) = [] ∨ noSh (.bool r_1_4) = true) (And.intro hb_1_0 (And.intro (neT hb_1_1 : r_1_4 ≠ true) (And.intro (neT hb_1_1 : r_1_4 ≠ true) (And.intro (neT hb_1_1 : r_1_4 ≠ true) (And.intro hb_1_1 (And.intro (neT (rfl : false = false) : false ≠ true) (And.intro (neT (rfl : false = false) : false ≠ true) (And.intro (neT (rfl : false = false) : false ≠ true) (And.intro (neT (rfl : false = false) : false ≠ true) (And.intro (neT (rfl : false = false) : false ≠ true) (And.intro (rfl : false = false) trivial))))))))))))))))))) (by kernel_rfl) (by kernel_rfl) ?_
        obtain rfl := Option.some.inj h
        exact Into.mk
    · refine Wp.reg tiok mix hc (by kernel_rfl) (ah := none) (rs := [some (.no), some (.call (.bool r_1_1) [] 1), some (.no), none, none, some (.cond false), some (.no), none, none, none, some (.cond false), some (.no), none, none, none, none, none, some (.cond false), some (.no)]) (kt := [6]) (ko := []) (T' := [(6, .bool false)]) (O' := []) (by kernel_rfl) (And.intro (spec_IsSystem_s _ _ hr_1_1) (And.intro bod_98 (And.intro (Or.inl rfl : ([] : List Nat) = [] ∨ noSh (.bool r_1_1) = true) (And.intro (neT hb_1_0 : r_1_1 ≠ true) (And.intro (neT hb_1_0 : r_1_1 ≠ true) (And.intro hb_1_0 (And.intro (neT (rfl : false = false) : false ≠ true) (And.intro (neT (rfl : false = false) : false ≠ true) (And.intro (neT (rfl : false = false) : false ≠ true) (And.intro (rfl : false = false) (And.intro (neT (rfl : false = false) : false ≠ true) (And.intro (neT (rfl : false = false) : false ≠ true) (And.intro (neT (rfl : false = false) : false ≠ true) (And.intro (neT (rfl : false = false) : false ≠ true) (And.intro (neT (rfl : false = false) : false ≠ true) (And.intro (rfl : false = false) trivial)))))))))))))))) (by kernel_rfl) (by kernel_rfl) ?_
      obtain rfl := Option.some.inj h
      exact Into.mk
  · clear hj_2
    refine seqQ_norm ?_
    refine Wp.retN (by kernel_rfl) ?_
    obtain rfl := Option.some.inj h
    exact RetQ.ret (fl := [true]) (by kernel_rfl)
def spec_l1Copy (l0 : (List Int)) : Option ((List Int)) :=
    (fits (([] : List Int).length + l0.length) 8) >>= fun _ =>
    some l0
def M_spec_l1Copy (l0 : (List Int)) (r : (List Int)) : Prop :=
  FnSound Try.prog 149 [.sl (List.map I l0)] (.osl (List.map I r)) []
theorem spec_l1Copy_s : ∀ p r, spec_l1Copy p = some r → M_spec_l1Copy p r := by
  rintro l0 r h
  unfold spec_l1Copy at h
  show FnSound Try.prog 149 [.sl (List.map I l0)] (.osl (List.map I r)) []
  refine FnSound.body0 tiok (fn := Try.f149) (code := B149) (by kernel_rfl) (by kernel_rfl) (by kernel_rfl) (by kernel_rfl) (nt := 6) (by kernel_rfl) (by kernel_rfl) (T := [(0, .sl (List.map I l0))]) (O := []) (by kernel_rfl) (by kernel_rfl) (fun c hc => ?_)
  refine Wp.seqN (by kernel_rfl) ?_
  refine Wp.reg tiok mix hc (by kernel_rfl) (ah := none) (rs := [some (.no)]) (kt := [0]) (ko := []) (T' := [(0, .sl (List.map I l0))]) (O' := []) (by kernel_rfl) trivial (by kernel_rfl) (by kernel_rfl) ?_
  refine seqQ_norm ?_
  refine Wp.seqN (by kernel_rfl) ?_
  obtain ⟨_, hk_1_2, h⟩ := bsome h
  refine Wp.reg tiok mix hc (by kernel_rfl) (ah := none) (rs := [some (.mk 1 true), some (.no), some (.eqv (.mk 2 true) ⟨[(5, .rs 2)], [(2, some (.arr (List.map I l0))), (1, none)], [2]⟩), some (.no)]) (kt := [2]) (ko := [2]) (T' := [(2, .rs 2)]) (O' := [(2, .arr (List.map I l0))]) (by kernel_rfl) (And.intro (congrArg (fun z => (⟨[(5, .rs 2)], [(2, some (.arr z)), (1, none)], [2]⟩ : Wr)) (List.nil_append _ : [] ++ (List.map I l0) = List.map I l0)) (And.intro (app_ob (enc1 := I) (enc2 := I) (e1 := []) (e2 := l0) (sz := 1) ek_I ek_I hk_1_2) trivial)) (by kernel_rfl) (by kernel_rfl) ?_
  refine seqQ_norm ?_
  refine Wp.retN (by kernel_rfl) ?_
  obtain rfl := Option.some.inj h
  exact RetQ.ret (fl := [true]) (by kernel_rfl)
def spec_l2Part (p : (List Int) × Int) : Option ((List Int)) :=
  match p with
  | (ty0, k1) =>
    (spec_l2End (ty0, 1)) >>= fun r_1_1 =>
    if (k1 == 0) = true then
      (cut ty0 (some 1) (some r_1_1) none) >>= fun c_3_2 =>
      (spec_l1Copy c_3_2) >>= fun r_3_3 =>
      some r_3_3
    else
      (cut ty0 (some r_1_1) none none) >>= fun c_4_2 =>
      (spec_l1Copy c_4_2) >>= fun r_4_3 =>
      some r_4_3
def M_spec_l2Part (p : (List Int) × Int) (r : (List Int)) : Prop :=
  match p with
  | (ty0, k1) => FnSound Try.prog 99 [.sl (List.map I ty0), .int .i64 k1] (.osl (List.map I r)) []
theorem spec_l2Part_s : ∀ p r, spec_l2Part p = some r → M_spec_l2Part p r := by
  rintro ⟨ty0, k1⟩ r h
  unfold spec_l2Part at h
  show FnSound Try.prog 99 [.sl (List.map I ty0), .int .i64 k1] (.osl (List.map I r)) []
  refine FnSound.body0 tiok (fn := Try.f99) (code := B99) (by kernel_rfl) (by kernel_rfl) (by kernel_rfl) (by kernel_rfl) (nt := 18) (by kernel_rfl) (by kernel_rfl) (T := [(0, .sl (List.map I ty0)), (1, .int .i64 k1)]) (O := []) (by kernel_rfl) (by kernel_rfl) (fun c hc => ?_)
  refine Wp.seqN (by kernel_rfl) ?_
  refine Wp.reg tiok mix hc (by kernel_rfl) (ah := none) (rs := [some (.no)]) (kt := [0, 1]) (ko := []) (T' := [(0, .sl (List.map I ty0)), (1, .int .i64 k1)]) (O' := []) (by kernel_rfl) trivial (by kernel_rfl) (by kernel_rfl) ?_
  refine seqQ_norm ?_
  refine Wp.seqN (by kernel_rfl) ?_
  obtain ⟨r_1_1, hr_1_1, h⟩ := bsome h
  refine Wp.reg tiok mix hc (by kernel_rfl) (ah := none) (rs := [some (.no), some (.call (.int .i64 r_1_1) [] 1), some (.no)]) (kt := [0, 1, 5]) (ko := []) (T' := [(0, .sl (List.map I ty0)), (1, .int .i64 k1), (5, .int .i64 r_1_1)]) (O' := []) (by kernel_rfl) (And.intro (spec_l2End_s _ _ hr_1_1) (And.intro bod_135 (And.intro (Or.inl rfl : ([] : List Nat) = [] ∨ noSh (.int .i64 r_1_1) = true) trivial))) (by kernel_rfl) (by kernel_rfl) ?_
  refine seqQ_norm ?_
  refine Wp.seqN (by kernel_rfl) ?_
  refine Wp.seqN (by kernel_rfl) ?_
  refine Wp.reg tiok mix hc (by kernel_rfl) (ah := none) (rs := [some (.no), some (.no)]) (kt := [0, 5, 9]) (ko := []) (T' := [(0, .sl (List.map I ty0)), (5, .int .i64 r_1_1), (9, .bool (k1 == 0))]) (O' := []) (by kernel_rfl) trivial (by kernel_rfl) (by kernel_rfl) ?_
  refine seqQ_norm ?_
  rcases itesome h with ⟨hb_1, h⟩ | ⟨hb_1, h⟩
  · refine Wp.condT (b := (k1 == 0)) (by kernel_rfl) (by kernel_rfl) hb_1 ?_
    refine Wp.seqN (by kernel_rfl) ?_
    obtain ⟨c_3_2, hs_3_2, h⟩ := bsome h
    obtain ⟨r_3_3, hr_3_3, h⟩ := bsome h
    refine Wp.reg tiok mix hc (by kernel_rfl) (ah := none) (rs := [some (.no), some (.no), some (.eqv (.no) ⟨[(12, .sl (List.map I c_3_2))], [], []⟩), some (.call (.osl (List.map I r_3_3)) [] 1), some (.no)]) (kt := [4]) (ko := [1]) (T' := [(4, .rs 1)]) (O' := [(1, .arr (List.map I r_3_3))]) (by kernel_rfl) (And.intro (cut_wr (d := 12) I hs_3_2) (And.intro (cut_ob (enc := I) (sz := 1) sz_I hs_3_2) (And.intro (spec_l1Copy_s _ _ hr_3_3) (And.intro bod_149 (And.intro (Or.inl rfl : ([] : List Nat) = [] ∨ noSh (.osl (List.map I r_3_3)) = true) trivial))))) (by kernel_rfl) (by kernel_rfl) ?_
    refine seqQ_norm ?_
    refine Wp.retN (by kernel_rfl) ?_
    refine seqQ_ret ?_
    obtain rfl := Option.some.inj h
    exact RetQ.ret (fl := [true]) (by kernel_rfl)
  · refine Wp.condF (b := (k1 == 0)) (by kernel_rfl) (by kernel_rfl) hb_1 ?_
    refine Wp.skipN (by kernel_rfl) ?_
    refine seqQ_norm ?_
    refine Wp.seqN (by kernel_rfl) ?_
    obtain ⟨c_4_2, hs_4_2, h⟩ := bsome h
    obtain ⟨r_4_3, hr_4_3, h⟩ := bsome h
    refine Wp.reg tiok mix hc (by kernel_rfl) (ah := none) (rs := [some (.no), some (.no), some (.eqv (.no) ⟨[(16, .sl (List.map I c_4_2))], [], []⟩), some (.call (.osl (List.map I r_4_3)) [] 2), some (.no)]) (kt := [4]) (ko := [2]) (T' := [(4, .rs 2)]) (O' := [(2, .arr (List.map I r_4_3))]) (by kernel_rfl) (And.intro (cut_wr (d := 16) I hs_4_2) (And.intro (cut_ob (enc := I) (sz := 1) sz_I hs_4_2) (And.intro (spec_l1Copy_s _ _ hr_4_3) (And.intro bod_149 (And.intro (Or.inl rfl : ([] : List Nat) = [] ∨ noSh (.osl (List.map I r_4_3)) = true) trivial))))) (by kernel_rfl) (by kernel_rfl) ?_
    refine seqQ_norm ?_
    refine Wp.retN (by kernel_rfl) ?_
    obtain rfl := Option.some.inj h
    exact RetQ.ret (fl := [true]) (by kernel_rfl)
def spec_l1Same_F1 (c : Ctx) : (Unit) ⊕ (Bool) → Exit → AState → Prop
  | .inl _ => Into c (.exit 0) (mkS [] [])
  | .inr r => RetE TIx Try.f122 [] (.bool r)
def spec_l1Same_l0 (p : (List Int) × (List Int) × Int) : Option ((Unit) ⊕ (Bool)) :=
  match p with
  | (a0, b1, i_4) =>
    if (decide (i_4 < (a0.length : Int))) = true then
      (idx a0 i_4) >>= fun e_6_2 =>
      (idx b1 i_4) >>= fun e_6_6 =>
      if (e_6_2 != e_6_6) = true then
        some (.inr false)
      else
        spec_l1Same_l0 (a0, b1, (wr (i_4 + 1)))
    else
      some (.inl ())
  partial_fixpoint
def M_spec_l1Same_l0 (p : (List Int) × (List Int) × Int) (fl : (Unit) ⊕ (Bool)) : Prop :=
  match p with
  | (a0, b1, i_4) => ∀ c : Ctx, c.nt = 26 → WpL Try.prog c (cl (cl (cr (cl (cr (cr B122)))))) (spec_l1Same_F1 c fl) (mkS [(0, .sl (List.map I a0)), (1, .sl (List.map I b1)), (5, .int .i64 i_4)] [])
theorem spec_l1Same_l0_s : ∀ p r, spec_l1Same_l0 p = some r → M_spec_l1Same_l0 p r := by
  refine spec_l1Same_l0.partial_correctness M_spec_l1Same_l0 ?_
  rintro spec_l1Same_l0_f spec_l1Same_l0_ih ⟨a0, b1, i_4⟩ r h
  intro c hc
  show WpL Try.prog c (cl (cl (cr (cl (cr (cr B122)))))) (spec_l1Same_F1 c r) (mkS [(0, .sl (List.map I a0)), (1, .sl (List.map I b1)), (5, .int .i64 i_4)] [])
  refine WpL.step ?_
  refine Wp.seqN (by kernel_rfl) ?_
  refine Wp.seqN (by kernel_rfl) ?_
  refine Wp.reg tiok mix hc (by kernel_rfl) (ah := none) (rs := [some (.no), some (.no), some (.eqv (.no) ⟨[(13, .int .i64 (a0.length : Int))], [], []⟩), some (.no)]) (kt := [0, 1, 5, 14]) (ko := []) (T' := [(0, .sl (List.map I a0)), (1, .sl (List.map I b1)), (5, .int .i64 i_4), (14, .bool (decide (i_4 < (a0.length : Int))))]) (O' := []) (by kernel_rfl) (And.intro (lenT (d := 13) I a0) trivial) (by kernel_rfl) (by kernel_rfl) ?_
  refine seqQ_norm ?_
  rcases itesome h with ⟨hb_5, h⟩ | ⟨hb_5, h⟩
  · refine Wp.condT (b := (decide (i_4 < (a0.length : Int)))) (by kernel_rfl) (by kernel_rfl) hb_5 ?_
    refine Wp.skipN (by kernel_rfl) ?_
    refine seqQ_norm ?_
    refine Wp.seqN (by kernel_rfl) ?_
    refine Wp.blockN (i := 1) (by kernel_rfl) ?_
    refine Wp.seqN (by kernel_rfl) ?_
    obtain ⟨e_6_2, hi_6_2, h⟩ := bsome h
    obtain ⟨e_6_6, hi_6_6, h⟩ := bsome h
    refine Wp.reg tiok mix hc (by kernel_rfl) (ah := (some [[], [], [0, 1], [0, 1, 2], [], [], [4, 5], [4, 5, 6], [0, 1, 2, 3, 4, 5, 6, 7]])) (rs := [some (.no), some (.no), some (.el (.int .i64 e_6_2)), some (.no), some (.no), some (.no), some (.el (.int .i64 e_6_6)), some (.no), some (.no)]) (kt := [0, 1, 5, 25]) (ko := []) (T' := [(0, .sl (List.map I a0)), (1, .sl (List.map I b1)), (5, .int .i64 i_4), (25, .bool (e_6_2 != e_6_6))]) (O' := []) (by kernel_rfl) (And.intro (idx_sl (enc := I) (x := .int .i64 e_6_2) hi_6_2 (eq_I e_6_2)) (And.intro (idx_sl (enc := I) (x := .int .i64 e_6_6) hi_6_6 (eq_I e_6_6)) trivial)) (by kernel_rfl) (by kernel_rfl) ?_
    refine seqQ_norm ?_
    rcases itesome h with ⟨hb_6, h⟩ | ⟨hb_6, h⟩
    · refine Wp.condT (b := (e_6_2 != e_6_6)) (by kernel_rfl) (by kernel_rfl) hb_6 ?_
      refine Wp.seqN (by kernel_rfl) ?_
      refine Wp.reg tiok mix hc (by kernel_rfl) (ah := none) (rs := [some (.no)]) (kt := [4]) (ko := []) (T' := [(4, .bool false)]) (O' := []) (by kernel_rfl) trivial (by kernel_rfl) (by kernel_rfl) ?_
      refine seqQ_norm ?_
      refine Wp.retN (by kernel_rfl) ?_
      refine blockQ_ret ?_
      refine seqQ_ret ?_
      refine loopQ_ret ?_
      obtain rfl := Option.some.inj h
      exact RetE.ret (fl := [true]) (by kernel_rfl)
    · refine Wp.condF (b := (e_6_2 != e_6_6)) (by kernel_rfl) (by kernel_rfl) hb_6 ?_
      refine Wp.skipN (by kernel_rfl) ?_
      refine blockQ_norm ?_
      refine seqQ_norm ?_
      refine Wp.reg tiok mix hc (by kernel_rfl) (ah := none) (rs := [some (.no), some (.no), some (.no)]) (kt := [0, 1, 5]) (ko := []) (T' := [(0, .sl (List.map I a0)), (1, .sl (List.map I b1)), (5, .int .i64 (wr (i_4 + 1)))]) (O' := []) (by kernel_rfl) trivial (by kernel_rfl) (by kernel_rfl) ?_
      refine loopQ_norm ?_
      exact (spec_l1Same_l0_ih _ _ h c hc)
  · refine Wp.condF (b := (decide (i_4 < (a0.length : Int)))) (by kernel_rfl) (by kernel_rfl) hb_5 ?_
    refine Wp.exitN (i := 0) (by kernel_rfl) ?_
    refine seqQ_exit ?_
    refine loopQ_exit ?_
    obtain rfl := Option.some.inj h
    exact Into.view (fun a w hv => SRx.renL [] hv (by kernel_rfl) (by kernel_rfl) (by kernel_rfl))
def spec_l1Same (p : (List Int) × (List Int)) : Option (Bool) :=
  match p with
  | (a0, b1) =>
    if ((a0.length : Int) != (b1.length : Int)) = true then
      some false
    else
      (spec_l1Same_l0 (a0, b1, 0)) >>= fun fl => match fl with
      | .inl () =>
        some true
      | .inr r =>
        some r
def M_spec_l1Same (p : (List Int) × (List Int)) (r : Bool) : Prop :=
  match p with
  | (a0, b1) => FnSound Try.prog 122 [.sl (List.map I a0), .sl (List.map I b1)] (.bool r) []
theorem spec_l1Same_s : ∀ p r, spec_l1Same p = some r → M_spec_l1Same p r := by
  rintro ⟨a0, b1⟩ r h
  unfold spec_l1Same at h
  show FnSound Try.prog 122 [.sl (List.map I a0), .sl (List.map I b1)] (.bool r) []
  refine FnSound.body0 tiok (fn := Try.f122) (code := B122) (by kernel_rfl) (by kernel_rfl) (by kernel_rfl) (by kernel_rfl) (nt := 26) (by kernel_rfl) (by kernel_rfl) (T := [(0, .sl (List.map I a0)), (1, .sl (List.map I b1))]) (O := []) (by kernel_rfl) (by kernel_rfl) (fun c hc => ?_)
  refine Wp.seqN (by kernel_rfl) ?_
  refine Wp.reg tiok mix hc (by kernel_rfl) (ah := none) (rs := [some (.no)]) (kt := [0, 1]) (ko := []) (T' := [(0, .sl (List.map I a0)), (1, .sl (List.map I b1))]) (O' := []) (by kernel_rfl) trivial (by kernel_rfl) (by kernel_rfl) ?_
  refine seqQ_norm ?_
  refine Wp.seqN (by kernel_rfl) ?_
  refine Wp.seqN (by kernel_rfl) ?_
  refine Wp.reg tiok mix hc (by kernel_rfl) (ah := none) (rs := [some (.no), some (.eqv (.no) ⟨[(7, .int .i64 (a0.length : Int))], [], []⟩), some (.no), some (.eqv (.no) ⟨[(9, .int .i64 (b1.length : Int))], [], []⟩), some (.no)]) (kt := [0, 1, 10]) (ko := []) (T' := [(0, .sl (List.map I a0)), (1, .sl (List.map I b1)), (10, .bool ((a0.length : Int) != (b1.length : Int)))]) (O' := []) (by kernel_rfl) (And.intro (lenT (d := 7) I a0) (And.intro (lenT (d := 9) I b1) trivial)) (by kernel_rfl) (by kernel_rfl) ?_
  refine seqQ_norm ?_
  rcases itesome h with ⟨hb_1, h⟩ | ⟨hb_1, h⟩
  · refine Wp.condT (b := ((a0.length : Int) != (b1.length : Int))) (by kernel_rfl) (by kernel_rfl) hb_1 ?_
    refine Wp.seqN (by kernel_rfl) ?_
    refine Wp.reg tiok mix hc (by kernel_rfl) (ah := none) (rs := [some (.no)]) (kt := [4]) (ko := []) (T' := [(4, .bool false)]) (O' := []) (by kernel_rfl) trivial (by kernel_rfl) (by kernel_rfl) ?_
    refine seqQ_norm ?_
    refine Wp.retN (by kernel_rfl) ?_
    refine seqQ_ret ?_
    obtain rfl := Option.some.inj h
    exact RetQ.ret (fl := [true]) (by kernel_rfl)
  · refine Wp.condF (b := ((a0.length : Int) != (b1.length : Int))) (by kernel_rfl) (by kernel_rfl) hb_1 ?_
    refine Wp.skipN (by kernel_rfl) ?_
    refine seqQ_norm ?_
    refine Wp.seqN (by kernel_rfl) ?_
    refine Wp.seqN (by kernel_rfl) ?_
    refine Wp.reg tiok mix hc (by kernel_rfl) (ah := none) (rs := [some (.no)]) (kt := [0, 1, 5]) (ko := []) (T' := [(0, .sl (List.map I a0)), (1, .sl (List.map I b1)), (5, .int .i64 0)]) (O' := []) (by kernel_rfl) trivial (by kernel_rfl) (by kernel_rfl) ?_
    refine seqQ_norm ?_
    refine Wp.blockN (i := 0) (by kernel_rfl) ?_
    obtain ⟨fl, hl_7, h⟩ := bsome h
    have hL := spec_l1Same_l0_s _ _ hl_7 c hc
    refine Wp.loopN (by kernel_rfl) ?_
    rcases fl with ⟨⟩ | r
    · refine WpL.into (e := (.exit 0)) (mkS [] []) hL ?_
      refine blockQ_hit ?_
      refine seqQ_norm ?_
      refine Wp.seqN (by kernel_rfl) ?_
      refine Wp.reg tiok mix hc (by kernel_rfl) (ah := none) (rs := [some (.no)]) (kt := [4]) (ko := []) (T' := [(4, .bool true)]) (O' := []) (by kernel_rfl) trivial (by kernel_rfl) (by kernel_rfl) ?_
      refine seqQ_norm ?_
      refine Wp.retN (by kernel_rfl) ?_
      obtain rfl := Option.some.inj h
      exact RetQ.ret (fl := [true]) (by kernel_rfl)
    · refine WpL.mono hL ?_
      rintro _ _ ⟨rfl, hfin⟩
      refine blockQ_ret ?_
      refine seqQ_ret ?_
      obtain rfl := Option.some.inj h
      exact ⟨.inl rfl, hfin⟩
def spec_l5Value (p : (List Int) × GTerm) : Option (Bool) :=
  match p with
  | (ty0, v1) =>
    (idx ty0 0) >>= fun e_1_1 =>
    if (e_1_1 == 0) = true then
      some (v1.fOp == 1)
    else
      if (e_1_1 == 1) = true then
        (
          if (v1.fOp == 4) = true then
            (spec_l2Part (ty0, 0)) >>= fun r_5_5 =>
            (idx v1.fKids 0) >>= fun e_5_8 =>
            (spec_l5Value (r_5_5, e_5_8)) >>= fun r_5_10 =>
            if r_5_10 = true then
              (spec_l2Part (ty0, 1)) >>= fun r_5_14 =>
              (idx v1.fKids 1) >>= fun e_5_17 =>
              (spec_l5Value (r_5_14, e_5_17)) >>= fun r_5_19 =>
              some (r_5_19)
            else
              some (false)
          else
            some (false)
        ) >>= fun v_3 =>
        some v_3
      else
        (
          if (e_1_1 == 2) = true then
            some ((v1.fOp == 6))
          else
            some (false)
        ) >>= fun v_5 =>
        if v_5 = true then
          (
            (spec_l2Part (ty0, 1)) >>= fun r_7_3 =>
            (spec_l1Same (v1.fType, r_7_3)) >>= fun r_7_4 =>
            if r_7_4 = true then
              (spec_l2Part (ty0, 0)) >>= fun r_7_7 =>
              (idx v1.fKids 0) >>= fun e_7_10 =>
              (spec_l5Value (r_7_7, e_7_10)) >>= fun r_7_12 =>
              some (r_7_12)
            else
              some (false)
          ) >>= fun v_8 =>
          some v_8
        else
          if (e_1_1 == 2) = true then
            (
              if (v1.fOp == 7) = true then
                (spec_l2Part (ty0, 0)) >>= fun r_9_7 =>
                (spec_l1Same (v1.fType, r_9_7)) >>= fun r_9_8 =>
                if r_9_8 = true then
                  (spec_l2Part (ty0, 1)) >>= fun r_9_12 =>
                  (idx v1.fKids 0) >>= fun e_9_15 =>
                  (spec_l5Value (r_9_12, e_9_15)) >>= fun r_9_17 =>
                  some (r_9_17)
                else
                  some (false)
              else
                some (false)
            ) >>= fun v_11 =>
            some v_11
          else
            (
              if (v1.fOp == 11) = true then
                (spec_l2Grade e_1_1) >>= fun r_10_7 =>
                if (v1.fN == r_10_7) = true then
                  (spec_l2Part (ty0, 0)) >>= fun r_10_12 =>
                  (idx v1.fKids 0) >>= fun e_10_15 =>
                  (spec_l5Value (r_10_12, e_10_15)) >>= fun r_10_17 =>
                  some (r_10_17)
                else
                  some (false)
              else
                some (false)
            ) >>= fun v_13 =>
            some v_13
  partial_fixpoint
def M_spec_l5Value (p : (List Int) × GTerm) (r : Bool) : Prop :=
  match p with
  | (ty0, v1) => FnSound Try.prog 74 [.sl (List.map I ty0), .agg [.int .i64 v1.fOp, .int .i64 v1.fN, .sl (List.map I v1.fType), .sl (List.map GTerm_S v1.fKids)]] (.bool r) []
theorem spec_l5Value_s : ∀ p r, spec_l5Value p = some r → M_spec_l5Value p r := by
  refine spec_l5Value.partial_correctness M_spec_l5Value ?_
  rintro spec_l5Value_f spec_l5Value_ih ⟨ty0, v1⟩ r h
  show FnSound Try.prog 74 [.sl (List.map I ty0), .agg [.int .i64 v1.fOp, .int .i64 v1.fN, .sl (List.map I v1.fType), .sl (List.map GTerm_S v1.fKids)]] (.bool r) []
  refine FnSound.body0 tiok (fn := Try.f74) (code := B74) (by kernel_rfl) (by kernel_rfl) (by kernel_rfl) (by kernel_rfl) (nt := 102) (by kernel_rfl) (by kernel_rfl) (T := [(0, .sl (List.map I ty0)), (1, .agg [.int .i64 v1.fOp, .int .i64 v1.fN, .sl (List.map I v1.fType), .sl (List.map GTerm_S v1.fKids)])]) (O := []) (by kernel_rfl) (by kernel_rfl) (fun c hc => ?_)
  refine Wp.seqN (by kernel_rfl) ?_
  refine Wp.reg tiok mix hc (by kernel_rfl) (ah := none) (rs := [some (.new 1), some (.no)]) (kt := [0, 3]) (ko := [1]) (T' := [(0, .sl (List.map I ty0)), (3, .ra 1 0)]) (O' := [(1, .box [.int .i64 v1.fOp, .int .i64 v1.fN, .sl (List.map I v1.fType), .sl (List.map GTerm_S v1.fKids)])]) (by kernel_rfl) trivial (by kernel_rfl) (by kernel_rfl) ?_
  refine seqQ_norm ?_
  refine Wp.seqN (by kernel_rfl) ?_
  obtain ⟨e_1_1, hi_1_1, h⟩ := bsome h
  refine Wp.reg tiok mix hc (by kernel_rfl) (ah := none) (rs := [some (.no), some (.el (.int .i64 e_1_1)), some (.no), some (.no)]) (kt := [0, 3, 5]) (ko := [1]) (T' := [(0, .sl (List.map I ty0)), (3, .ra 1 0), (5, .int .i64 e_1_1)]) (O' := [(1, .box [.int .i64 v1.fOp, .int .i64 v1.fN, .sl (List.map I v1.fType), .sl (List.map GTerm_S v1.fKids)])]) (by kernel_rfl) (And.intro (idx_sl (enc := I) (x := .int .i64 e_1_1) hi_1_1 (eq_I e_1_1)) trivial) (by kernel_rfl) (by kernel_rfl) ?_
  refine seqQ_norm ?_
  refine Wp.seqN (by kernel_rfl) ?_
  refine Wp.blockN (i := 0) (by kernel_rfl) ?_
  refine Wp.seqN (by kernel_rfl) ?_
  refine Wp.reg tiok mix hc (by kernel_rfl) (ah := none) (rs := [some (.no), some (.no), some (.no)]) (kt := [0, 3, 5, 9]) (ko := [1]) (T' := [(0, .sl (List.map I ty0)), (3, .ra 1 0), (5, .int .i64 e_1_1), (9, .bool (e_1_1 == 0))]) (O' := [(1, .box [.int .i64 v1.fOp, .int .i64 v1.fN, .sl (List.map I v1.fType), .sl (List.map GTerm_S v1.fKids)])]) (by kernel_rfl) trivial (by kernel_rfl) (by kernel_rfl) ?_
  refine seqQ_norm ?_
  rcases itesome h with ⟨hb_1, h⟩ | ⟨hb_1, h⟩
  · refine Wp.condT (b := (e_1_1 == 0)) (by kernel_rfl) (by kernel_rfl) hb_1 ?_
    refine Wp.seqN (by kernel_rfl) ?_
    refine Wp.reg tiok mix hc (by kernel_rfl) (ah := none) (rs := [some (.no), some (.no), some (.no), some (.no)]) (kt := [4]) (ko := []) (T' := [(4, .bool (v1.fOp == 1))]) (O' := []) (by kernel_rfl) trivial (by kernel_rfl) (by kernel_rfl) ?_
    refine seqQ_norm ?_
    refine Wp.retN (by kernel_rfl) ?_
    refine blockQ_ret ?_
    refine seqQ_ret ?_
    obtain rfl := Option.some.inj h
    exact RetQ.ret (fl := [true]) (by kernel_rfl)
  · refine Wp.condF (b := (e_1_1 == 0)) (by kernel_rfl) (by kernel_rfl) hb_1 ?_
    refine Wp.seqN (by kernel_rfl) ?_
    refine Wp.reg tiok mix hc (by kernel_rfl) (ah := none) (rs := [some (.no), some (.no), some (.no)]) (kt := [0, 3, 5, 15]) (ko := [1]) (T' := [(0, .sl (List.map I ty0)), (3, .ra 1 0), (5, .int .i64 e_1_1), (15, .bool (e_1_1 == 1))]) (O' := [(1, .box [.int .i64 v1.fOp, .int .i64 v1.fN, .sl (List.map I v1.fType), .sl (List.map GTerm_S v1.fKids)])]) (by kernel_rfl) trivial (by kernel_rfl) (by kernel_rfl) ?_
    refine seqQ_norm ?_
    rcases itesome h with ⟨hb_2, h⟩ | ⟨hb_2, h⟩
    · refine Wp.condT (b := (e_1_1 == 1)) (by kernel_rfl) (by kernel_rfl) hb_2 ?_
      refine Wp.seqN (by kernel_rfl) ?_
      obtain ⟨v_3, hj_4, h⟩ := bsome h
      refine Wp.into (x := .normal) (mkS [(4, .bool v_3)] []) ?_ ?_
      · replace h := hj_4
        rcases itesome h with ⟨hb_5_0, h⟩ | ⟨hb_5_0, h⟩
        · obtain ⟨r_5_5, hr_5_5, h⟩ := bsome h
          obtain ⟨e_5_8, hi_5_8, h⟩ := bsome h
          obtain ⟨r_5_10, hr_5_10, h⟩ := bsome h
          rcases itesome h with ⟨hb_5_1, h⟩ | ⟨hb_5_1, h⟩
          · obtain ⟨r_5_14, hr_5_14, h⟩ := bsome h
            obtain ⟨e_5_17, hi_5_17, h⟩ := bsome h
            obtain ⟨r_5_19, hr_5_19, h⟩ := bsome h
            refine Wp.reg tiok mix hc (by kernel_rfl) (ah := (some [[], [0], [0, 1], [0, 1, 2], [0, 1, 2, 3], [0, 1, 2, 3, 4], [0, 1, 2, 3], [0, 1, 2, 3, 6], [0, 1, 2, 3, 6, 7], [0, 1, 2, 3, 6, 7, 8], [0, 1, 2, 3, 4, 5, 6, 7, 8, 9], [0, 1, 2, 3, 4, 5, 6, 7, 8, 9, 10], [0, 1, 2, 3, 4, 5, 6, 7, 8, 9, 10, 11], [0, 1, 2, 3, 4, 5, 6, 7, 8, 9, 10, 11, 12], [0, 1, 2, 3, 4, 5, 6, 7, 8, 9, 10, 11, 12, 13], [0, 1, 2, 3, 4, 5, 6, 7, 8, 9, 10, 11, 12], [0, 1, 2, 3, 4, 5, 6, 7, 8, 9, 10, 11, 12, 15], [0, 1, 2, 3, 4, 5, 6, 7, 8, 9, 10, 11, 12, 15, 16], [0, 1, 2, 3, 4, 5, 6, 7, 8, 9, 10, 11, 12, 15, 16, 17], [0, 1, 2, 3, 4, 5, 6, 7, 8, 9, 10, 11, 12, 13, 14, 15, 16, 17, 18], [0, 1, 2, 3, 4, 5, 6, 7, 8, 9, 10, 11, 12, 13, 14, 15, 16, 17, 18, 19], [0, 1, 2, 3, 4, 5, 6, 7, 8, 9, 10, 11, 12, 13, 14, 15, 16, 17, 18, 19, 20]])) (rs := [some (.no), some (.no), some (.no), some (.no), some (.no), some (.call (.osl (List.map I r_5_5)) [] 2), some (.no), some (.no), some (.el (.agg [.int .i64 e_5_8.fOp, .int .i64 e_5_8.fN, .sl (List.map I e_5_8.fType), .sl (List.map GTerm_S e_5_8.fKids)])), some (.no), some (.call (.bool r_5_10) [] 1), some (.cond true), some (.no), some (.no), some (.call (.osl (List.map I r_5_14)) [] 3), some (.no), some (.no), some (.el (.agg [.int .i64 e_5_17.fOp, .int .i64 e_5_17.fN, .sl (List.map I e_5_17.fType), .sl (List.map GTerm_S e_5_17.fKids)])), some (.no), some (.call (.bool r_5_19) [] 1), some (.cond true), some (.no)]) (kt := [4]) (ko := []) (T' := [(4, .bool r_5_19)]) (O' := []) (by kernel_rfl) (And.intro hb_5_0 (And.intro hb_5_0 (And.intro (spec_l2Part_s _ _ hr_5_5) (And.intro bod_99 (And.intro (Or.inl rfl : ([] : List Nat) = [] ∨ noSh (.osl (List.map I r_5_5)) = true) (And.intro hb_5_0 (And.intro hb_5_0 (And.intro hb_5_0 (And.intro (idx_sl (enc := GTerm_S) (x := .agg [.int .i64 e_5_8.fOp, .int .i64 e_5_8.fN, .sl (List.map I e_5_8.fType), .sl (List.map GTerm_S e_5_8.fKids)]) hi_5_8 (eq_GTerm_S e_5_8)) (And.intro hb_5_0 (And.intro hb_5_0 (And.intro (FnSound.args (A1 := [.sl (shares (List.map I r_5_5)), .agg [.int .i64 e_5_8.fOp, .int .i64 e_5_8.fN, .sl (List.map I e_5_8.fType), .sl (List.map GTerm_S e_5_8.fKids)]]) (A2 := [.sl (List.map I r_5_5), .agg [.int .i64 e_5_8.fOp, .int .i64 e_5_8.fN, .sl (List.map I e_5_8.fType), .sl (List.map GTerm_S e_5_8.fKids)]]) (by simp only [List.map_nil, sh_I]) (spec_l5Value_ih _ _ hr_5_10)) (And.intro bod_74 (And.intro (Or.inr rfl : ([2] : List Nat) = [] ∨ noSh (.bool r_5_10) = true) (And.intro hb_5_0 (And.intro hb_5_1 (And.intro hb_5_1 (And.intro (spec_l2Part_s _ _ hr_5_14) (And.intro bod_99 (And.intro (Or.inl rfl : ([] : List Nat) = [] ∨ noSh (.osl (List.map I r_5_14)) = true) (And.intro hb_5_1 (And.intro hb_5_1 (And.intro hb_5_1 (And.intro (idx_sl (enc := GTerm_S) (x := .agg [.int .i64 e_5_17.fOp, .int .i64 e_5_17.fN, .sl (List.map I e_5_17.fType), .sl (List.map GTerm_S e_5_17.fKids)]) hi_5_17 (eq_GTerm_S e_5_17)) (And.intro hb_5_1 (And.intro hb_5_1 (And.intro (FnSound.args (A1 := [.sl (shares (List.map I r_5_14)), .agg [.int .i64 e_5_17.fOp, .int .i64 e_5_17.fN, .sl (List.map I e_5_17.fType), .sl (List.map GTerm_S e_5_17.fKids)]]) (A2 := [.sl (List.map I r_5_14), .agg [.int .i64 e_5_17.fOp, .int .i64 e_5_17.fN, .sl (List.map I e_5_17.fType), .sl (List.map GTerm_S e_5_17.fKids)]]) (by simp only [List.map_nil, sh_I]) (spec_l5Value_ih _ _ hr_5_19)) (And.intro bod_74 (And.intro (Or.inr rfl : ([3] : List Nat) = [] ∨ noSh (.bool r_5_19) = true) (And.intro hb_5_1 trivial)))))))))))))))))))))))))))))) (by kernel_rfl) (by kernel_rfl) ?_
            obtain rfl := Option.some.inj h
            exact Into.mk
          · refine Wp.reg tiok mix hc (by kernel_rfl) (ah := (some [[], [0], [0, 1], [0, 1, 2], [0, 1, 2, 3], [0, 1, 2, 3, 4], [0, 1, 2, 3], [0, 1, 2, 3, 6], [0, 1, 2, 3, 6, 7], [0, 1, 2, 3, 6, 7, 8], [0, 1, 2, 3, 4, 5, 6, 7, 8, 9], [0, 1, 2, 3, 4, 5, 6, 7, 8, 9, 10], [0, 1, 2, 3, 4, 5, 6, 7, 8, 9, 10, 11], [0, 1, 2, 3, 4, 5, 6, 7, 8, 9, 10, 11, 12], [0, 1, 2, 3, 4, 5, 6, 7, 8, 9, 10, 11, 12, 13], [0, 1, 2, 3, 4, 5, 6, 7, 8, 9, 10, 11, 12], [0, 1, 2, 3, 4, 5, 6, 7, 8, 9, 10, 11, 12, 15], [0, 1, 2, 3, 4, 5, 6, 7, 8, 9, 10, 11, 12, 15, 16], [0, 1, 2, 3, 4, 5, 6, 7, 8, 9, 10, 11, 12, 15, 16, 17], [0, 1, 2, 3, 4, 5, 6, 7, 8, 9, 10, 11, 12, 13, 14, 15, 16, 17, 18], [0, 1, 2, 3, 4, 5, 6, 7, 8, 9, 10, 11, 12, 13, 14, 15, 16, 17, 18, 19], [0, 1, 2, 3, 4, 5, 6, 7, 8, 9, 10, 11, 12, 13, 14, 15, 16, 17, 18, 19, 20]])) (rs := [some (.no), some (.no), some (.no), some (.no), some (.no), some (.call (.osl (List.map I r_5_5)) [] 2), some (.no), some (.no), some (.el (.agg [.int .i64 e_5_8.fOp, .int .i64 e_5_8.fN, .sl (List.map I e_5_8.fType), .sl (List.map GTerm_S e_5_8.fKids)])), some (.no), some (.call (.bool r_5_10) [] 1), some (.cond true), some (.no), none, none, none, none, none, none, none, some (.cond false), some (.no)]) (kt := [4]) (ko := []) (T' := [(4, .bool false)]) (O' := []) (by kernel_rfl) (And.intro hb_5_0 (And.intro hb_5_0 (And.intro (spec_l2Part_s _ _ hr_5_5) (And.intro bod_99 (And.intro (Or.inl rfl : ([] : List Nat) = [] ∨ noSh (.osl (List.map I r_5_5)) = true) (And.intro hb_5_0 (And.intro hb_5_0 (And.intro hb_5_0 (And.intro (idx_sl (enc := GTerm_S) (x := .agg [.int .i64 e_5_8.fOp, .int .i64 e_5_8.fN, .sl (List.map I e_5_8.fType), .sl (List.map GTerm_S e_5_8.fKids)]) hi_5_8 (eq_GTerm_S e_5_8)) (And.intro hb_5_0 (And.intro hb_5_0 (And.intro (FnSound.args (A1 := [.sl (shares (List.map I r_5_5)), .agg [.int .i64 e_5_8.fOp, .int .i64 e_5_8.fN, .sl (List.map I e_5_8.fType), .sl (List.map GTerm_S e_5_8.fKids)]]) (A2 := [.sl (List.map I r_5_5), .agg [.int .i64 e_5_8.fOp, .int .i64 e_5_8.fN, .sl (List.map I e_5_8.fType), .sl (List.map GTerm_S e_5_8.fKids)]]) (by simp only [List.map_nil, sh_I]) (spec_l5Value_ih _ _ hr_5_10)) (And.intro bod_74 (And.intro (Or.inr rfl : ([2] : List Nat) = [] ∨ noSh (.bool r_5_10) = true) (And.intro hb_5_0 (And.intro (neT hb_5_1 : r_5_10 ≠ true) (And.intro (neT hb_5_1 : r_5_10 ≠ true) (And.intro (neT hb_5_1 : r_5_10 ≠ true) (And.intro (neT hb_5_1 : r_5_10 ≠ true) (And.intro (neT hb_5_1 : r_5_10 ≠ true) (And.intro (neT hb_5_1 : r_5_10 ≠ true) (And.intro (neT hb_5_1 : r_5_10 ≠ true) (And.intro hb_5_1 trivial))))))))))))))))))))))) (by kernel_rfl) (by kernel_rfl) ?_
            obtain rfl := Option.some.inj h
            exact Into.mk
        · refine Wp.reg tiok mix hc (by kernel_rfl) (ah := (some [[], [0], [0, 1], [0, 1, 2], [0, 1, 2, 3], [0, 1, 2, 3, 4], [0, 1, 2, 3], [0, 1, 2, 3, 6], [0, 1, 2, 3, 6, 7], [0, 1, 2, 3, 6, 7, 8], [0, 1, 2, 3, 4, 5, 6, 7, 8, 9], [0, 1, 2, 3, 4, 5, 6, 7, 8, 9, 10], [0, 1, 2, 3, 4, 5, 6, 7, 8, 9, 10, 11], [0, 1, 2, 3, 4, 5, 6, 7, 8, 9, 10, 11, 12], [0, 1, 2, 3, 4, 5, 6, 7, 8, 9, 10, 11, 12, 13], [0, 1, 2, 3, 4, 5, 6, 7, 8, 9, 10, 11, 12], [0, 1, 2, 3, 4, 5, 6, 7, 8, 9, 10, 11, 12, 15], [0, 1, 2, 3, 4, 5, 6, 7, 8, 9, 10, 11, 12, 15, 16], [0, 1, 2, 3, 4, 5, 6, 7, 8, 9, 10, 11, 12, 15, 16, 17], [0, 1, 2, 3, 4, 5, 6, 7, 8, 9, 10, 11, 12, 13, 14, 15, 16, 17, 18], [0, 1, 2, 3, 4, 5, 6, 7, 8, 9, 10, 11, 12, 13, 14, 15, 16, 17, 18, 19], [0, 1, 2, 3, 4, 5, 6, 7, 8, 9, 10, 11, 12, 13, 14, 15, 16, 17, 18, 19, 20]])) (rs := [some (.no), some (.no), some (.no), some (.no), none, none, none, none, none, none, none, some (.cond false), some (.no), none, none, none, none, none, none, none, some (.cond false), some (.no)]) (kt := [4]) (ko := []) (T' := [(4, .bool false)]) (O' := []) (by kernel_rfl) (And.intro (neT hb_5_0 : (v1.fOp == 4) ≠ true) (And.intro (neT hb_5_0 : (v1.fOp == 4) ≠ true) (And.intro (neT hb_5_0 : (v1.fOp == 4) ≠ true) (And.intro (neT hb_5_0 : (v1.fOp == 4) ≠ true) (And.intro (neT hb_5_0 : (v1.fOp == 4) ≠ true) (And.intro (neT hb_5_0 : (v1.fOp == 4) ≠ true) (And.intro (neT hb_5_0 : (v1.fOp == 4) ≠ true) (And.intro hb_5_0 (And.intro (neT (rfl : false = false) : false ≠ true) (And.intro (neT (rfl : false = false) : false ≠ true) (And.intro (neT (rfl : false = false) : false ≠ true) (And.intro (neT (rfl : false = false) : false ≠ true) (And.intro (neT (rfl : false = false) : false ≠ true) (And.intro (neT (rfl : false = false) : false ≠ true) (And.intro (neT (rfl : false = false) : false ≠ true) (And.intro (rfl : false = false) trivial)))))))))))))))) (by kernel_rfl) (by kernel_rfl) ?_
          obtain rfl := Option.some.inj h
          exact Into.mk
      · clear hj_4
        refine seqQ_norm ?_
        refine Wp.retN (by kernel_rfl) ?_
        refine blockQ_ret ?_
        refine seqQ_ret ?_
        obtain rfl := Option.some.inj h
        exact RetQ.ret (fl := [true]) (by kernel_rfl)
    · refine Wp.condF (b := (e_1_1 == 1)) (by kernel_rfl) (by kernel_rfl) hb_2 ?_
      refine Wp.seqN (by kernel_rfl) ?_
      obtain ⟨v_5, hj_6, h⟩ := bsome h
      refine Wp.into (x := .normal) (mkS [(0, .sl (List.map I ty0)), (3, .ra 1 0), (5, .int .i64 e_1_1), (39, .bool v_5)] [(1, .box [.int .i64 v1.fOp, .int .i64 v1.fN, .sl (List.map I v1.fType), .sl (List.map GTerm_S v1.fKids)])]) ?_ ?_
      · replace h := hj_6
        rcases itesome h with ⟨hb_6_0, h⟩ | ⟨hb_6_0, h⟩
        · refine Wp.reg tiok mix hc (by kernel_rfl) (ah := none) (rs := [some (.no), some (.no), some (.no), some (.no), some (.no), some (.no), some (.cond true), some (.no)]) (kt := [0, 3, 5, 39]) (ko := [1]) (T' := [(0, .sl (List.map I ty0)), (3, .ra 1 0), (5, .int .i64 e_1_1), (39, .bool (v1.fOp == 6))]) (O' := [(1, .box [.int .i64 v1.fOp, .int .i64 v1.fN, .sl (List.map I v1.fType), .sl (List.map GTerm_S v1.fKids)])]) (by kernel_rfl) (And.intro hb_6_0 (And.intro hb_6_0 (And.intro hb_6_0 (And.intro hb_6_0 trivial)))) (by kernel_rfl) (by kernel_rfl) ?_
          obtain rfl := Option.some.inj h
          exact Into.mk
        · refine Wp.reg tiok mix hc (by kernel_rfl) (ah := none) (rs := [some (.no), some (.no), some (.no), none, none, none, some (.cond false), some (.no)]) (kt := [0, 3, 5, 39]) (ko := [1]) (T' := [(0, .sl (List.map I ty0)), (3, .ra 1 0), (5, .int .i64 e_1_1), (39, .bool false)]) (O' := [(1, .box [.int .i64 v1.fOp, .int .i64 v1.fN, .sl (List.map I v1.fType), .sl (List.map GTerm_S v1.fKids)])]) (by kernel_rfl) (And.intro (neT hb_6_0 : (e_1_1 == 2) ≠ true) (And.intro (neT hb_6_0 : (e_1_1 == 2) ≠ true) (And.intro (neT hb_6_0 : (e_1_1 == 2) ≠ true) (And.intro hb_6_0 trivial)))) (by kernel_rfl) (by kernel_rfl) ?_
          obtain rfl := Option.some.inj h
          exact Into.mk
      · clear hj_6
        refine seqQ_norm ?_
        rcases itesome h with ⟨hb_7, h⟩ | ⟨hb_7, h⟩
        · refine Wp.condT (b := v_5) (by kernel_rfl) (by kernel_rfl) hb_7 ?_
          refine Wp.seqN (by kernel_rfl) ?_
          obtain ⟨v_8, hj_9, h⟩ := bsome h
          refine Wp.into (x := .normal) (mkS [(4, .bool v_8)] []) ?_ ?_
          · replace h := hj_9
            obtain ⟨r_7_3, hr_7_3, h⟩ := bsome h
            obtain ⟨r_7_4, hr_7_4, h⟩ := bsome h
            rcases itesome h with ⟨hb_7_0, h⟩ | ⟨hb_7_0, h⟩
            · obtain ⟨r_7_7, hr_7_7, h⟩ := bsome h
              obtain ⟨e_7_10, hi_7_10, h⟩ := bsome h
              obtain ⟨r_7_12, hr_7_12, h⟩ := bsome h
              refine Wp.reg tiok mix hc (by kernel_rfl) (ah := (some [[], [0], [], [2], [0, 1, 2, 3], [0, 1, 2, 3, 4], [0, 1, 2, 3, 4, 5], [0, 1, 2, 3, 4, 5, 6], [0, 1, 2, 3, 4, 5], [0, 1, 2, 3, 4, 5, 8], [0, 1, 2, 3, 4, 5, 8, 9], [0, 1, 2, 3, 4, 5, 8, 9, 10], [0, 1, 2, 3, 4, 5, 6, 7, 8, 9, 10, 11], [0, 1, 2, 3, 4, 5, 6, 7, 8, 9, 10, 11, 12], [0, 1, 2, 3, 4, 5, 6, 7, 8, 9, 10, 11, 12, 13]])) (rs := [some (.no), some (.no), some (.no), some (.call (.osl (List.map I r_7_3)) [] 4), some (.call (.bool r_7_4) [] 1), some (.no), some (.no), some (.call (.osl (List.map I r_7_7)) [] 5), some (.no), some (.no), some (.el (.agg [.int .i64 e_7_10.fOp, .int .i64 e_7_10.fN, .sl (List.map I e_7_10.fType), .sl (List.map GTerm_S e_7_10.fKids)])), some (.no), some (.call (.bool r_7_12) [] 1), some (.cond true), some (.no)]) (kt := [4]) (ko := []) (T' := [(4, .bool r_7_12)]) (O' := []) (by kernel_rfl) (And.intro (spec_l2Part_s _ _ hr_7_3) (And.intro bod_99 (And.intro (Or.inl rfl : ([] : List Nat) = [] ∨ noSh (.osl (List.map I r_7_3)) = true) (And.intro (FnSound.args (A1 := [.sl (List.map I v1.fType), .sl (shares (List.map I r_7_3))]) (A2 := [.sl (List.map I v1.fType), .sl (List.map I r_7_3)]) (by simp only [List.map_nil, sh_I]) (spec_l1Same_s _ _ hr_7_4)) (And.intro bod_122 (And.intro (Or.inr rfl : ([4] : List Nat) = [] ∨ noSh (.bool r_7_4) = true) (And.intro hb_7_0 (And.intro hb_7_0 (And.intro (spec_l2Part_s _ _ hr_7_7) (And.intro bod_99 (And.intro (Or.inl rfl : ([] : List Nat) = [] ∨ noSh (.osl (List.map I r_7_7)) = true) (And.intro hb_7_0 (And.intro hb_7_0 (And.intro hb_7_0 (And.intro (idx_sl (enc := GTerm_S) (x := .agg [.int .i64 e_7_10.fOp, .int .i64 e_7_10.fN, .sl (List.map I e_7_10.fType), .sl (List.map GTerm_S e_7_10.fKids)]) hi_7_10 (eq_GTerm_S e_7_10)) (And.intro hb_7_0 (And.intro hb_7_0 (And.intro (FnSound.args (A1 := [.sl (shares (List.map I r_7_7)), .agg [.int .i64 e_7_10.fOp, .int .i64 e_7_10.fN, .sl (List.map I e_7_10.fType), .sl (List.map GTerm_S e_7_10.fKids)]]) (A2 := [.sl (List.map I r_7_7), .agg [.int .i64 e_7_10.fOp, .int .i64 e_7_10.fN, .sl (List.map I e_7_10.fType), .sl (List.map GTerm_S e_7_10.fKids)]]) (by simp only [List.map_nil, sh_I]) (spec_l5Value_ih _ _ hr_7_12)) (And.intro bod_74 (And.intro (Or.inr rfl : ([5] : List Nat) = [] ∨ noSh (.bool r_7_12) = true) (And.intro hb_7_0 trivial))))))))))))))))))))) (by kernel_rfl) (by kernel_rfl) ?_
              obtain rfl := Option.some.inj h
              exact Into.mk
            · refine Wp.reg tiok mix hc (by kernel_rfl) (ah := (some [[], [0], [], [2], [0, 1, 2, 3], [0, 1, 2, 3, 4], [0, 1, 2, 3, 4, 5], [0, 1, 2, 3, 4, 5, 6], [0, 1, 2, 3, 4, 5], [0, 1, 2, 3, 4, 5, 8], [0, 1, 2, 3, 4, 5, 8, 9], [0, 1, 2, 3, 4, 5, 8, 9, 10], [0, 1, 2, 3, 4, 5, 6, 7, 8, 9, 10, 11], [0, 1, 2, 3, 4, 5, 6, 7, 8, 9, 10, 11, 12], [0, 1, 2, 3, 4, 5, 6, 7, 8, 9, 10, 11, 12, 13]])) (rs := [some (.no), some (.no), some (.no), some (.call (.osl (List.map I r_7_3)) [] 4), some (.call (.bool r_7_4) [] 1), some (.no), none, none, none, none, none, none, none, some (.cond false), some (.no)]) (kt := [4]) (ko := []) (T' := [(4, .bool false)]) (O' := []) (by kernel_rfl) (And.intro (spec_l2Part_s _ _ hr_7_3) (And.intro bod_99 (And.intro (Or.inl rfl : ([] : List Nat) = [] ∨ noSh (.osl (List.map I r_7_3)) = true) (And.intro (FnSound.args (A1 := [.sl (List.map I v1.fType), .sl (shares (List.map I r_7_3))]) (A2 := [.sl (List.map I v1.fType), .sl (List.map I r_7_3)]) (by simp only [List.map_nil, sh_I]) (spec_l1Same_s _ _ hr_7_4)) (And.intro bod_122 (And.intro (Or.inr rfl : ([4] : List Nat) = [] ∨ noSh (.bool r_7_4) = true) (And.intro (neT hb_7_0 : r_7_4 ≠ true) (And.intro (neT hb_7_0 : r_7_4 ≠ true) (And.intro (neT hb_7_0 : r_7_4 ≠ true) (And.intro (neT hb_7_0 : r_7_4 ≠ true) (And.intro (neT hb_7_0 : r_7_4 ≠ true) (And.intro (neT hb_7_0 : r_7_4 ≠ true) (And.intro (neT hb_7_0 : r_7_4 ≠ true) (And.intro hb_7_0 trivial)))))))))))))) (by kernel_rfl) (by kernel_rfl) ?_
              obtain rfl := Option.some.inj h
              exact Into.mk
          · clear hj_9
            refine seqQ_norm ?_
            refine Wp.retN (by kernel_rfl) ?_
            refine blockQ_ret ?_
            refine seqQ_ret ?_
            obtain rfl := Option.some.inj h
            exact RetQ.ret (fl := [true]) (by kernel_rfl)
        · refine Wp.condF (b := v_5) (by kernel_rfl) (by kernel_rfl) hb_7 ?_
          refine Wp.seqN (by kernel_rfl) ?_
          refine Wp.reg tiok mix hc (by kernel_rfl) (ah := none) (rs := [some (.no), some (.no), some (.no)]) (kt := [0, 3, 5, 61]) (ko := [1]) (T' := [(0, .sl (List.map I ty0)), (3, .ra 1 0), (5, .int .i64 e_1_1), (61, .bool (e_1_1 == 2))]) (O' := [(1, .box [.int .i64 v1.fOp, .int .i64 v1.fN, .sl (List.map I v1.fType), .sl (List.map GTerm_S v1.fKids)])]) (by kernel_rfl) trivial (by kernel_rfl) (by kernel_rfl) ?_
          refine seqQ_norm ?_
          rcases itesome h with ⟨hb_10, h⟩ | ⟨hb_10, h⟩
          · refine Wp.condT (b := (e_1_1 == 2)) (by kernel_rfl) (by kernel_rfl) hb_10 ?_
            refine Wp.seqN (by kernel_rfl) ?_
            obtain ⟨v_11, hj_12, h⟩ := bsome h
            refine Wp.into (x := .normal) (mkS [(4, .bool v_11)] []) ?_ ?_
            · replace h := hj_12
              rcases itesome h with ⟨hb_9_0, h⟩ | ⟨hb_9_0, h⟩
              · obtain ⟨r_9_7, hr_9_7, h⟩ := bsome h
                obtain ⟨r_9_8, hr_9_8, h⟩ := bsome h
                rcases itesome h with ⟨hb_9_1, h⟩ | ⟨hb_9_1, h⟩
                · obtain ⟨r_9_12, hr_9_12, h⟩ := bsome h
                  obtain ⟨e_9_15, hi_9_15, h⟩ := bsome h
                  obtain ⟨r_9_17, hr_9_17, h⟩ := bsome h
                  refine Wp.reg tiok mix hc (by kernel_rfl) (ah := (some [[], [0], [0, 1], [0, 1, 2], [0, 1, 2, 3], [0, 1, 2, 3, 4], [0, 1, 2, 3], [0, 1, 2, 3, 6], [0, 1, 2, 3, 4, 5, 6, 7], [0, 1, 2, 3, 4, 5, 6, 7, 8], [0, 1, 2, 3, 4, 5, 6, 7, 8, 9], [0, 1, 2, 3, 4, 5, 6, 7, 8, 9, 10], [0, 1, 2, 3, 4, 5, 6, 7, 8, 9, 10, 11], [0, 1, 2, 3, 4, 5, 6, 7, 8, 9, 10], [0, 1, 2, 3, 4, 5, 6, 7, 8, 9, 10, 13], [0, 1, 2, 3, 4, 5, 6, 7, 8, 9, 10, 13, 14], [0, 1, 2, 3, 4, 5, 6, 7, 8, 9, 10, 13, 14, 15], [0, 1, 2, 3, 4, 5, 6, 7, 8, 9, 10, 11, 12, 13, 14, 15, 16], [0, 1, 2, 3, 4, 5, 6, 7, 8, 9, 10, 11, 12, 13, 14, 15, 16, 17], [0, 1, 2, 3, 4, 5, 6, 7, 8, 9, 10, 11, 12, 13, 14, 15, 16, 17, 18]])) (rs := [some (.no), some (.no), some (.no), some (.no), some (.no), some (.no), some (.no), some (.call (.osl (List.map I r_9_7)) [] 6), some (.call (.bool r_9_8) [] 1), some (.cond true), some (.no), some (.no), some (.call (.osl (List.map I r_9_12)) [] 7), some (.no), some (.no), some (.el (.agg [.int .i64 e_9_15.fOp, .int .i64 e_9_15.fN, .sl (List.map I e_9_15.fType), .sl (List.map GTerm_S e_9_15.fKids)])), some (.no), some (.call (.bool r_9_17) [] 1), some (.cond true), some (.no)]) (kt := [4]) (ko := []) (T' := [(4, .bool r_9_17)]) (O' := []) (by kernel_rfl) (And.intro hb_9_0 (And.intro hb_9_0 (And.intro hb_9_0 (And.intro hb_9_0 (And.intro (spec_l2Part_s _ _ hr_9_7) (And.intro bod_99 (And.intro (Or.inl rfl : ([] : List Nat) = [] ∨ noSh (.osl (List.map I r_9_7)) = true) (And.intro hb_9_0 (And.intro (FnSound.args (A1 := [.sl (List.map I v1.fType), .sl (shares (List.map I r_9_7))]) (A2 := [.sl (List.map I v1.fType), .sl (List.map I r_9_7)]) (by simp only [List.map_nil, sh_I]) (spec_l1Same_s _ _ hr_9_8)) (And.intro bod_122 (And.intro (Or.inr rfl : ([6] : List Nat) = [] ∨ noSh (.bool r_9_8) = true) (And.intro hb_9_0 (And.intro hb_9_1 (And.intro hb_9_1 (And.intro (spec_l2Part_s _ _ hr_9_12) (And.intro bod_99 (And.intro (Or.inl rfl : ([] : List Nat) = [] ∨ noSh (.osl (List.map I r_9_12)) = true) (And.intro hb_9_1 (And.intro hb_9_1 (And.intro hb_9_1 (And.intro (idx_sl (enc := GTerm_S) (x := .agg [.int .i64 e_9_15.fOp, .int .i64 e_9_15.fN, .sl (List.map I e_9_15.fType), .sl (List.map GTerm_S e_9_15.fKids)]) hi_9_15 (eq_GTerm_S e_9_15)) (And.intro hb_9_1 (And.intro hb_9_1 (And.intro (FnSound.args (A1 := [.sl (shares (List.map I r_9_12)), .agg [.int .i64 e_9_15.fOp, .int .i64 e_9_15.fN, .sl (List.map I e_9_15.fType), .sl (List.map GTerm_S e_9_15.fKids)]]) (A2 := [.sl (List.map I r_9_12), .agg [.int .i64 e_9_15.fOp, .int .i64 e_9_15.fN, .sl (List.map I e_9_15.fType), .sl (List.map GTerm_S e_9_15.fKids)]]) (by simp only [List.map_nil, sh_I]) (spec_l5Value_ih _ _ hr_9_17)) (And.intro bod_74 (And.intro (Or.inr rfl : ([7] : List Nat) = [] ∨ noSh (.bool r_9_17) = true) (And.intro hb_9_1 trivial))))))))))))))))))))))))))) (by kernel_rfl) (by kernel_rfl) ?_
                  obtain rfl := Option.some.inj h
                  exact Into.mk
                · refine Wp.reg tiok mix hc (by kernel_rfl) (ah := (some [[], [0], [0, 1], [0, 1, 2], [0, 1, 2, 3], [0, 1, 2, 3, 4], [0, 1, 2, 3], [0, 1, 2, 3, 6], [0, 1, 2, 3, 4, 5, 6, 7], [0, 1, 2, 3, 4, 5, 6, 7, 8], [0, 1, 2, 3, 4, 5, 6, 7, 8, 9], [0, 1, 2, 3, 4, 5, 6, 7, 8, 9, 10], [0, 1, 2, 3, 4, 5, 6, 7, 8, 9, 10, 11], [0, 1, 2, 3, 4, 5, 6, 7, 8, 9, 10], [0, 1, 2, 3, 4, 5, 6, 7, 8, 9, 10, 13], [0, 1, 2, 3, 4, 5, 6, 7, 8, 9, 10, 13, 14], [0, 1, 2, 3, 4, 5, 6, 7, 8, 9, 10, 13, 14, 15], [0, 1, 2, 3, 4, 5, 6, 7, 8, 9, 10, 11, 12, 13, 14, 15, 16], [0, 1, 2, 3, 4, 5, 6, 7, 8, 9, 10, 11, 12, 13, 14, 15, 16, 17], [0, 1, 2, 3, 4, 5, 6, 7, 8, 9, 10, 11, 12, 13, 14, 15, 16, 17, 18]])) (rs := [some (.no), some (.no), some (.no), some (.no), some (.no), some (.no), some (.no), some (.call (.osl (List.map I r_9_7)) [] 6), some (.call (.bool r_9_8) [] 1), some (.cond true), some (.no), none, none, none, none, none, none, none, some (.cond false), some (.no)]) (kt := [4]) (ko := []) (T' := [(4, .bool false)]) (O' := []) (by kernel_rfl) (And.intro hb_9_0 (And.intro hb_9_0 (And.intro hb_9_0 (And.intro hb_9_0 (And.intro (spec_l2Part_s _ _ hr_9_7) (And.intro bod_99 (And.intro (Or.inl rfl : ([] : List Nat) = [] ∨ noSh (.osl (List.map I r_9_7)) = true) (And.intro hb_9_0 (And.intro (FnSound.args (A1 := [.sl (List.map I v1.fType), .sl (shares (List.map I r_9_7))]) (A2 := [.sl (List.map I v1.fType), .sl (List.map I r_9_7)]) (by simp only [List.map_nil, sh_I]) (spec_l1Same_s _ _ hr_9_8)) (And.intro bod_122 (And.intro (Or.inr rfl : ([6] : List Nat) = [] ∨ noSh (.bool r_9_8) = true) (And.intro hb_9_0 (And.intro (neT hb_9_1 : r_9_8 ≠ true) (And.intro (neT hb_9_1 : r_9_8 ≠ true) (And.intro (neT hb_9_1 : r_9_8 ≠ true) (And.intro (neT hb_9_1 : r_9_8 ≠ true) (And.intro (neT hb_9_1 : r_9_8 ≠ true) (And.intro (neT hb_9_1 : r_9_8 ≠ true) (And.intro (neT hb_9_1 : r_9_8 ≠ true) (And.intro hb_9_1 trivial)))))))))))))))))))) (by kernel_rfl) (by kernel_rfl) ?_
                  obtain rfl := Option.some.inj h
                  exact Into.mk
              · refine Wp.reg tiok mix hc (by kernel_rfl) (ah := (some [[], [0], [0, 1], [0, 1, 2], [0, 1, 2, 3], [0, 1, 2, 3, 4], [0, 1, 2, 3], [0, 1, 2, 3, 6], [0, 1, 2, 3, 4, 5, 6, 7], [0, 1, 2, 3, 4, 5, 6, 7, 8], [0, 1, 2, 3, 4, 5, 6, 7, 8, 9], [0, 1, 2, 3, 4, 5, 6, 7, 8, 9, 10], [0, 1, 2, 3, 4, 5, 6, 7, 8, 9, 10, 11], [0, 1, 2, 3, 4, 5, 6, 7, 8, 9, 10], [0, 1, 2, 3, 4, 5, 6, 7, 8, 9, 10, 13], [0, 1, 2, 3, 4, 5, 6, 7, 8, 9, 10, 13, 14], [0, 1, 2, 3, 4, 5, 6, 7, 8, 9, 10, 13, 14, 15], [0, 1, 2, 3, 4, 5, 6, 7, 8, 9, 10, 11, 12, 13, 14, 15, 16], [0, 1, 2, 3, 4, 5, 6, 7, 8, 9, 10, 11, 12, 13, 14, 15, 16, 17], [0, 1, 2, 3, 4, 5, 6, 7, 8, 9, 10, 11, 12, 13, 14, 15, 16, 17, 18]])) (rs := [some (.no), some (.no), some (.no), some (.no), none, none, none, none, none, some (.cond false), some (.no), none, none, none, none, none, none, none, some (.cond false), some (.no)]) (kt := [4]) (ko := []) (T' := [(4, .bool false)]) (O' := []) (by kernel_rfl) (And.intro (neT hb_9_0 : (v1.fOp == 7) ≠ true) (And.intro (neT hb_9_0 : (v1.fOp == 7) ≠ true) (And.intro (neT hb_9_0 : (v1.fOp == 7) ≠ true) (And.intro (neT hb_9_0 : (v1.fOp == 7) ≠ true) (And.intro (neT hb_9_0 : (v1.fOp == 7) ≠ true) (And.intro hb_9_0 (And.intro (neT (rfl : false = false) : false ≠ true) (And.intro (neT (rfl : false = false) : false ≠ true) (And.intro (neT (rfl : false = false) : false ≠ true) (And.intro (neT (rfl : false = false) : false ≠ true) (And.intro (neT (rfl : false = false) : false ≠ true) (And.intro (neT (rfl : false = false) : false ≠ true) (And.intro (neT (rfl : false = false) : false ≠ true) (And.intro (rfl : false = false) trivial)))))))))))))) (by kernel_rfl) (by kernel_rfl) ?_
                obtain rfl := Option.some.inj h
                exact Into.mk
            · clear hj_12
              refine seqQ_norm ?_
              refine Wp.retN (by kernel_rfl) ?_
              refine blockQ_ret ?_
              refine seqQ_ret ?_
              obtain rfl := Option.some.inj h
              exact RetQ.ret (fl := [true]) (by kernel_rfl)
          · refine Wp.condF (b := (e_1_1 == 2)) (by kernel_rfl) (by kernel_rfl) hb_10 ?_
            refine Wp.skipN (by kernel_rfl) ?_
            refine blockQ_norm ?_
            refine seqQ_norm ?_
            refine Wp.seqN (by kernel_rfl) ?_
            obtain ⟨v_13, hj_14, h⟩ := bsome h
            refine Wp.into (x := .normal) (mkS [(4, .bool v_13)] []) ?_ ?_
            · replace h := hj_14
              rcases itesome h with ⟨hb_10_0, h⟩ | ⟨hb_10_0, h⟩
              · obtain ⟨r_10_7, hr_10_7, h⟩ := bsome h
                rcases itesome h with ⟨hb_10_1, h⟩ | ⟨hb_10_1, h⟩
                · obtain ⟨r_10_12, hr_10_12, h⟩ := bsome h
                  obtain ⟨e_10_15, hi_10_15, h⟩ := bsome h
                  obtain ⟨r_10_17, hr_10_17, h⟩ := bsome h
                  refine Wp.reg tiok mix hc (by kernel_rfl) (ah := (some [[], [0], [0, 1], [0, 1, 2], [0, 1, 2, 3], [0, 1, 2, 3, 4], [0, 1, 2, 3], [0, 1, 2, 3, 6], [0, 1, 2, 3, 4, 5, 6, 7], [0, 1, 2, 3, 4, 5, 6, 7, 8], [0, 1, 2, 3, 4, 5, 6, 7, 8, 9], [0, 1, 2, 3, 4, 5, 6, 7, 8, 9, 10], [0, 1, 2, 3, 4, 5, 6, 7, 8, 9, 10, 11], [0, 1, 2, 3, 4, 5, 6, 7, 8, 9, 10], [0, 1, 2, 3, 4, 5, 6, 7, 8, 9, 10, 13], [0, 1, 2, 3, 4, 5, 6, 7, 8, 9, 10, 13, 14], [0, 1, 2, 3, 4, 5, 6, 7, 8, 9, 10, 13, 14, 15], [0, 1, 2, 3, 4, 5, 6, 7, 8, 9, 10, 11, 12, 13, 14, 15, 16], [0, 1, 2, 3, 4, 5, 6, 7, 8, 9, 10, 11, 12, 13, 14, 15, 16, 17], [0, 1, 2, 3, 4, 5, 6, 7, 8, 9, 10, 11, 12, 13, 14, 15, 16, 17, 18]])) (rs := [some (.no), some (.no), some (.no), some (.no), some (.no), some (.no), some (.no), some (.call (.int .i64 r_10_7) [] 1), some (.no), some (.cond true), some (.no), some (.no), some (.call (.osl (List.map I r_10_12)) [] 8), some (.no), some (.no), some (.el (.agg [.int .i64 e_10_15.fOp, .int .i64 e_10_15.fN, .sl (List.map I e_10_15.fType), .sl (List.map GTerm_S e_10_15.fKids)])), some (.no), some (.call (.bool r_10_17) [] 1), some (.cond true), some (.no)]) (kt := [4]) (ko := []) (T' := [(4, .bool r_10_17)]) (O' := []) (by kernel_rfl) (And.intro hb_10_0 (And.intro hb_10_0 (And.intro hb_10_0 (And.intro hb_10_0 (And.intro (spec_l2Grade_s _ _ hr_10_7) (And.intro bod_101 (And.intro (Or.inl rfl : ([] : List Nat) = [] ∨ noSh (.int .i64 r_10_7) = true) (And.intro hb_10_0 (And.intro hb_10_0 (And.intro hb_10_1 (And.intro hb_10_1 (And.intro (spec_l2Part_s _ _ hr_10_12) (And.intro bod_99 (And.intro (Or.inl rfl : ([] : List Nat) = [] ∨ noSh (.osl (List.map I r_10_12)) = true) (And.intro hb_10_1 (And.intro hb_10_1 (And.intro hb_10_1 (And.intro (idx_sl (enc := GTerm_S) (x := .agg [.int .i64 e_10_15.fOp, .int .i64 e_10_15.fN, .sl (List.map I e_10_15.fType), .sl (List.map GTerm_S e_10_15.fKids)]) hi_10_15 (eq_GTerm_S e_10_15)) (And.intro hb_10_1 (And.intro hb_10_1 (And.intro (FnSound.args (A1 := [.sl (shares (List.map I r_10_12)), .agg [.int .i64 e_10_15.fOp, .int .i64 e_10_15.fN, .sl (List.map I e_10_15.fType), .sl (List.map GTerm_S e_10_15.fKids)]]) (A2 := [.sl (List.map I r_10_12), .agg [.int .i64 e_10_15.fOp, .int .i64 e_10_15.fN, .sl (List.map I e_10_15.fType), .sl (List.map GTerm_S e_10_15.fKids)]]) (by simp only [List.map_nil, sh_I]) (spec_l5Value_ih _ _ hr_10_17)) (And.intro bod_74 (And.intro (Or.inr rfl : ([8] : List Nat) = [] ∨ noSh (.bool r_10_17) = true) (And.intro hb_10_1 trivial)))))))))))))))))))))))) (by kernel_rfl) (by kernel_rfl) ?_
                  obtain rfl := Option.some.inj h
                  exact Into.mk
                · refine Wp.reg tiok mix hc (by kernel_rfl) (ah := (some [[], [0], [0, 1], [0, 1, 2], [0, 1, 2, 3], [0, 1, 2, 3, 4], [0, 1, 2, 3], [0, 1, 2, 3, 6], [0, 1, 2, 3, 4, 5, 6, 7], [0, 1, 2, 3, 4, 5, 6, 7, 8], [0, 1, 2, 3, 4, 5, 6, 7, 8, 9], [0, 1, 2, 3, 4, 5, 6, 7, 8, 9, 10], [0, 1, 2, 3, 4, 5, 6, 7, 8, 9, 10, 11], [0, 1, 2, 3, 4, 5, 6, 7, 8, 9, 10], [0, 1, 2, 3, 4, 5, 6, 7, 8, 9, 10, 13], [0, 1, 2, 3, 4, 5, 6, 7, 8, 9, 10, 13, 14], [0, 1, 2, 3, 4, 5, 6, 7, 8, 9, 10, 13, 14, 15], [0, 1, 2, 3, 4, 5, 6, 7, 8, 9, 10, 11, 12, 13, 14, 15, 16], [0, 1, 2, 3, 4, 5, 6, 7, 8, 9, 10, 11, 12, 13, 14, 15, 16, 17], [0, 1, 2, 3, 4, 5, 6, 7, 8, 9, 10, 11, 12, 13, 14, 15, 16, 17, 18]])) (rs := [some (.no), some (.no), some (.no), some (.no), some (.no), some (.no), some (.no), some (.call (.int .i64 r_10_7) [] 1), some (.no), some (.cond true), some (.no), none, none, none, none, none, none, none, some (.cond false), some (.no)]) (kt := [4]) (ko := []) (T' := [(4, .bool false)]) (O' := []) (by kernel_rfl) (And.intro hb_10_0 (And.intro hb_10_0 (And.intro hb_10_0 (And.intro hb_10_0 (And.intro (spec_l2Grade_s _ _ hr_10_7) (And.intro bod_101 (And.intro (Or.inl rfl : ([] : List Nat) = [] ∨ noSh (.int .i64 r_10_7) = true) (And.intro hb_10_0 (And.intro hb_10_0 (And.intro (neT hb_10_1 : (v1.fN == r_10_7) ≠ true) (And.intro (neT hb_10_1 : (v1.fN == r_10_7) ≠ true) (And.intro (neT hb_10_1 : (v1.fN == r_10_7) ≠ true) (And.intro (neT hb_10_1 : (v1.fN == r_10_7) ≠ true) (And.intro (neT hb_10_1 : (v1.fN == r_10_7) ≠ true) (And.intro (neT hb_10_1 : (v1.fN == r_10_7) ≠ true) (And.intro (neT hb_10_1 : (v1.fN == r_10_7) ≠ true) (And.intro hb_10_1 trivial))))))))))))))))) (by kernel_rfl) (by kernel_rfl) ?_
                  obtain rfl := Option.some.inj h
                  exact Into.mk
              · refine Wp.reg tiok mix hc (by kernel_rfl) (ah := (some [[], [0], [0, 1], [0, 1, 2], [0, 1, 2, 3], [0, 1, 2, 3, 4], [0, 1, 2, 3], [0, 1, 2, 3, 6], [0, 1, 2, 3, 4, 5, 6, 7], [0, 1, 2, 3, 4, 5, 6, 7, 8], [0, 1, 2, 3, 4, 5, 6, 7, 8, 9], [0, 1, 2, 3, 4, 5, 6, 7, 8, 9, 10], [0, 1, 2, 3, 4, 5, 6, 7, 8, 9, 10, 11], [0, 1, 2, 3, 4, 5, 6, 7, 8, 9, 10], [0, 1, 2, 3, 4, 5, 6, 7, 8, 9, 10, 13], [0, 1, 2, 3, 4, 5, 6, 7, 8, 9, 10, 13, 14], [0, 1, 2, 3, 4, 5, 6, 7, 8, 9, 10, 13, 14, 15], [0, 1, 2, 3, 4, 5, 6, 7, 8, 9, 10, 11, 12, 13, 14, 15, 16], [0, 1, 2, 3, 4, 5, 6, 7, 8, 9, 10, 11, 12, 13, 14, 15, 16, 17], [0, 1, 2, 3, 4, 5, 6, 7, 8, 9, 10, 11, 12, 13, 14, 15, 16, 17, 18]])) (rs := [some (.no), some (.no), some (.no), some (.no), none, none, none, none, none, some (.cond false), some (.no), none, none, none, none, none, none, none, some (.cond false), some (.no)]) (kt := [4]) (ko := []) (T' := [(4, .bool false)]) (O' := []) (by kernel_rfl) (And.intro (neT hb_10_0 : (v1.fOp == 11) ≠ true) (And.intro (neT hb_10_0 : (v1.fOp == 11) ≠ true) (And.intro (neT hb_10_0 : (v1.fOp == 11) ≠ true) (And.intro (neT hb_10_0 : (v1.fOp == 11) ≠ true) (And.intro (neT hb_10_0 : (v1.fOp == 11) ≠ true) (And.intro hb_10_0 (And.intro (neT (rfl : false = false) : false ≠ true) (And.intro (neT (rfl : false = false) : false ≠ true) (And.intro (neT (rfl : false = false) : false ≠ true) (And.intro (neT (rfl : false = false) : false ≠ true) (And.intro (neT (rfl : false = false) : false ≠ true) (And.intro (neT (rfl : false = false) : false ≠ true) (And.intro (neT (rfl : false = false) : false ≠ true) (And.intro (rfl : false = false) trivial)))))))))))))) (by kernel_rfl) (by kernel_rfl) ?_
                obtain rfl := Option.some.inj h
                exact Into.mk
            · clear hj_14
              refine seqQ_norm ?_
              refine Wp.retN (by kernel_rfl) ?_
              obtain rfl := Option.some.inj h
              exact RetQ.ret (fl := [true]) (by kernel_rfl)
def spec_IsValue (p : GSystem × (List Int) × GTerm) : Option (Bool) :=
  match p with
  | (s0, ty1, v2) =>
    (
      (spec_IsData (s0, ty1)) >>= fun r_1_2 =>
      if r_1_2 = true then
        (spec_IsTerm (s0, v2, 0)) >>= fun r_1_6 =>
        if r_1_6 = true then
          (spec_l5Value (ty1, v2)) >>= fun r_1_11 =>
          some (r_1_11)
        else
          some (false)
      else
        some (false)
    ) >>= fun v_1 =>
    some v_1
def M_spec_IsValue (p : GSystem × (List Int) × GTerm) (r : Bool) : Prop :=
  match p with
  | (s0, ty1, v2) => FnSound Try.prog 29 [.agg [.int .i64 s0.fSize, .sl (List.map I s0.fPlus), .sl (List.map I s0.fTimes), .sl (List.map AV.bool s0.fBelow)], .sl (List.map I ty1), .agg [.int .i64 v2.fOp, .int .i64 v2.fN, .sl (List.map I v2.fType), .sl (List.map GTerm_S v2.fKids)]] (.bool r) []
theorem spec_IsValue_s : ∀ p r, spec_IsValue p = some r → M_spec_IsValue p r := by
  rintro ⟨s0, ty1, v2⟩ r h
  unfold spec_IsValue at h
  show FnSound Try.prog 29 [.agg [.int .i64 s0.fSize, .sl (List.map I s0.fPlus), .sl (List.map I s0.fTimes), .sl (List.map AV.bool s0.fBelow)], .sl (List.map I ty1), .agg [.int .i64 v2.fOp, .int .i64 v2.fN, .sl (List.map I v2.fType), .sl (List.map GTerm_S v2.fKids)]] (.bool r) []
  refine FnSound.body0 tiok (fn := Try.f29) (code := B29) (by kernel_rfl) (by kernel_rfl) (by kernel_rfl) (by kernel_rfl) (nt := 20) (by kernel_rfl) (by kernel_rfl) (T := [(0, .agg [.int .i64 s0.fSize, .sl (List.map I s0.fPlus), .sl (List.map I s0.fTimes), .sl (List.map AV.bool s0.fBelow)]), (1, .sl (List.map I ty1)), (2, .agg [.int .i64 v2.fOp, .int .i64 v2.fN, .sl (List.map I v2.fType), .sl (List.map GTerm_S v2.fKids)])]) (O := []) (by kernel_rfl) (by kernel_rfl) (fun c hc => ?_)
  refine Wp.seqN (by kernel_rfl) ?_
  refine Wp.reg tiok mix hc (by kernel_rfl) (ah := none) (rs := [some (.new 1), some (.new 2), some (.no)]) (kt := [1, 3, 5]) (ko := [1, 2]) (T' := [(1, .sl (List.map I ty1)), (3, .ra 1 0), (5, .ra 2 0)]) (O' := [(1, .box [.int .i64 s0.fSize, .sl (List.map I s0.fPlus), .sl (List.map I s0.fTimes), .sl (List.map AV.bool s0.fBelow)]), (2, .box [.int .i64 v2.fOp, .int .i64 v2.fN, .sl (List.map I v2.fType), .sl (List.map GTerm_S v2.fKids)])]) (by kernel_rfl) trivial (by kernel_rfl) (by kernel_rfl) ?_
  refine seqQ_norm ?_
  refine Wp.seqN (by kernel_rfl) ?_
  obtain ⟨v_1, hj_2, h⟩ := bsome h
  refine Wp.into (x := .normal) (mkS [(6, .bool v_1)] []) ?_ ?_
  · replace h := hj_2
    obtain ⟨r_1_2, hr_1_2, h⟩ := bsome h
    rcases itesome h with ⟨hb_1_0, h⟩ | ⟨hb_1_0, h⟩
    · obtain ⟨r_1_6, hr_1_6, h⟩ := bsome h
      rcases itesome h with ⟨hb_1_1, h⟩ | ⟨hb_1_1, h⟩
      · obtain ⟨r_1_11, hr_1_11, h⟩ := bsome h
        refine Wp.reg tiok mix hc (by kernel_rfl) (ah := none) (rs := [some (.no), some (.no), some (.call (.bool r_1_2) [] 1), some (.no), some (.no), some (.no), some (.call (.bool r_1_6) [] 1), some (.cond true), some (.no), some (.no), some (.no), some (.call (.bool r_1_11) [] 1), some (.cond true), some (.no)]) (kt := [6]) (ko := []) (T' := [(6, .bool r_1_11)]) (O' := []) (by kernel_rfl) (And.intro (spec_IsData_s _ _ hr_1_2) (And.intro bod_72 (And.intro (Or.inl rfl : ([] : List Nat) = [] ∨ noSh (.bool r_1_2) = true) (And.intro hb_1_0 (And.intro hb_1_0 (And.intro hb_1_0 (And.intro (spec_IsTerm_s _ _ hr_1_6) (And.intro bod_73 (And.intro (Or.inl rfl : ([] : List Nat) = [] ∨ noSh (.bool r_1_6) = true) (And.intro hb_1_0 (And.intro hb_1_1 (And.intro hb_1_1 (And.intro hb_1_1 (And.intro (spec_l5Value_s _ _ hr_1_11) (And.intro bod_74 (And.intro (Or.inl rfl : ([] : List Nat) = [] ∨ noSh (.bool r_1_11) = true) (And.intro hb_1_1 trivial))))))))))))))))) (by kernel_rfl) (by kernel_rfl) ?_
        obtain rfl := Option.some.inj h
        exact Into.mk
      · refine Wp.reg tiok mix hc (by kernel_rfl) (ah := none) (rs := [some (.no), some (.no), some (.call (.bool r_1_2) [] 1), some (.no), some (.no), some (.no), some (.call (.bool r_1_6) [] 1), some (.cond true), some (.no), none, none, none, some (.cond false), some (.no)]) (kt := [6]) (ko := []) (T' := [(6, .bool false)]) (O' := []) (by kernel_rfl) (And.intro (spec_IsData_s _ _ hr_1_2) (And.intro bod_72 (And.intro (Or.inl rfl : ([] : List Nat) = [] ∨ noSh (.bool r_1_2) = true) (And.intro hb_1_0 (And.intro hb_1_0 (And.intro hb_1_0 (And.intro (spec_IsTerm_s _ _ hr_1_6) (And.intro bod_73 (And.intro (Or.inl rfl : ([] : List Nat) = [] ∨ noSh (.bool r_1_6) = true) (And.intro hb_1_0 (And.intro (neT hb_1_1 : r_1_6 ≠ true) (And.intro (neT hb_1_1 : r_1_6 ≠ true) (And.intro (neT hb_1_1 : r_1_6 ≠ true) (And.intro hb_1_1 trivial)))))))))))))) (by kernel_rfl) (by kernel_rfl) ?_
        obtain rfl := Option.some.inj h
        exact Into.mk
    · refine Wp.reg tiok mix hc (by kernel_rfl) (ah := none) (rs := [some (.no), some (.no), some (.call (.bool r_1_2) [] 1), some (.no), none, none, none, some (.cond false), some (.no), none, none, none, some (.cond false), some (.no)]) (kt := [6]) (ko := []) (T' := [(6, .bool false)]) (O' := []) (by kernel_rfl) (And.intro (spec_IsData_s _ _ hr_1_2) (And.intro bod_72 (And.intro (Or.inl rfl : ([] : List Nat) = [] ∨ noSh (.bool r_1_2) = true) (And.intro (neT hb_1_0 : r_1_2 ≠ true) (And.intro (neT hb_1_0 : r_1_2 ≠ true) (And.intro (neT hb_1_0 : r_1_2 ≠ true) (And.intro hb_1_0 (And.intro (neT (rfl : false = false) : false ≠ true) (And.intro (neT (rfl : false = false) : false ≠ true) (And.intro (neT (rfl : false = false) : false ≠ true) (And.intro (rfl : false = false) trivial))))))))))) (by kernel_rfl) (by kernel_rfl) ?_
      obtain rfl := Option.some.inj h
      exact Into.mk
  · clear hj_2
    refine seqQ_norm ?_
    refine Wp.retN (by kernel_rfl) ?_
    obtain rfl := Option.some.inj h
    exact RetQ.ret (fl := [true]) (by kernel_rfl)
def impl_within (p : Int × Int × Int) : Option (Bool) :=
  match p with
  | (n0, low1, high2) =>
    (
      if (decide (n0 ≥ low1)) = true then
        some ((decide (n0 ≤ high2)))
      else
        some (false)
    ) >>= fun v_1 =>
    some v_1
def M_impl_within (p : Int × Int × Int) (r : Bool) : Prop :=
  match p with
  | (n0, low1, high2) => FnSound Try.prog 64 [.int .i64 n0, .int .i64 low1, .int .i64 high2] (.bool r) []
theorem impl_within_s : ∀ p r, impl_within p = some r → M_impl_within p r := by
  rintro ⟨n0, low1, high2⟩ r h
  unfold impl_within at h
  show FnSound Try.prog 64 [.int .i64 n0, .int .i64 low1, .int .i64 high2] (.bool r) []
  refine FnSound.body0 tiok (fn := Try.f64) (code := B64) (by kernel_rfl) (by kernel_rfl) (by kernel_rfl) (by kernel_rfl) (nt := 15) (by kernel_rfl) (by kernel_rfl) (T := [(0, .int .i64 n0), (1, .int .i64 low1), (2, .int .i64 high2)]) (O := []) (by kernel_rfl) (by kernel_rfl) (fun c hc => ?_)
  refine Wp.seqN (by kernel_rfl) ?_
  refine Wp.reg tiok mix hc (by kernel_rfl) (ah := none) (rs := [some (.no)]) (kt := [0, 1, 2]) (ko := []) (T' := [(0, .int .i64 n0), (1, .int .i64 low1), (2, .int .i64 high2)]) (O' := []) (by kernel_rfl) trivial (by kernel_rfl) (by kernel_rfl) ?_
  refine seqQ_norm ?_
  refine Wp.seqN (by kernel_rfl) ?_
  obtain ⟨v_1, hj_2, h⟩ := bsome h
  refine Wp.into (x := .normal) (mkS [(6, .bool v_1)] []) ?_ ?_
  · replace h := hj_2
    rcases itesome h with ⟨hb_1_0, h⟩ | ⟨hb_1_0, h⟩
    · refine Wp.reg tiok mix hc (by kernel_rfl) (ah := none) (rs := [some (.no), some (.no), some (.no), some (.no), some (.no), some (.no), some (.no), some (.cond true), some (.no)]) (kt := [6]) (ko := []) (T' := [(6, .bool (decide (n0 ≤ high2)))]) (O' := []) (by kernel_rfl) (And.intro hb_1_0 (And.intro hb_1_0 (And.intro hb_1_0 (And.intro hb_1_0 trivial)))) (by kernel_rfl) (by kernel_rfl) ?_
      obtain rfl := Option.some.inj h
      exact Into.mk
    · refine Wp.reg tiok mix hc (by kernel_rfl) (ah := none) (rs := [some (.no), some (.no), some (.no), some (.no), none, none, none, some (.cond false), some (.no)]) (kt := [6]) (ko := []) (T' := [(6, .bool false)]) (O' := []) (by kernel_rfl) (And.intro (neT hb_1_0 : (decide (n0 ≥ low1)) ≠ true) (And.intro (neT hb_1_0 : (decide (n0 ≥ low1)) ≠ true) (And.intro (neT hb_1_0 : (decide (n0 ≥ low1)) ≠ true) (And.intro hb_1_0 trivial)))) (by kernel_rfl) (by kernel_rfl) ?_
      obtain rfl := Option.some.inj h
      exact Into.mk
  · clear hj_2
    refine seqQ_norm ?_
    refine Wp.retN (by kernel_rfl) ?_
    obtain rfl := Option.some.inj h
    exact RetQ.ret (fl := [true]) (by kernel_rfl)
def impl_shape (code0 : Int) : Option (Int × Int) :=
    (impl_within (code0, 0, 2)) >>= fun r_1_1 =>
    if r_1_1 = true then
      some (code0, (-1))
    else
      (impl_within (code0, 3, 18)) >>= fun r_3_1 =>
      if r_3_1 = true then
        some (3, (wr (code0 - 3)))
      else
        (impl_within (code0, 19, 34)) >>= fun r_5_1 =>
        if r_5_1 = true then
          some (4, (wr (code0 - 19)))
        else
          if (code0 == 35) = true then
            some (3, (-1))
          else
            if (code0 == 36) = true then
              some (4, (-1))
            else
              some (5, (-1))
def M_impl_shape (code0 : Int) (r : Int × Int) : Prop :=
  FnSound Try.prog 103 [.int .i64 code0] (.tup [.int .i64 r.1, .int .i64 r.2]) []
theorem impl_shape_s : ∀ p r, impl_shape p = some r → M_impl_shape p r := by
  rintro code0 r h
  unfold impl_shape at h
  show FnSound Try.prog 103 [.int .i64 code0] (.tup [.int .i64 r.1, .int .i64 r.2]) []
  refine FnSound.body0 tiok (fn := Try.f103) (code := B103) (by kernel_rfl) (by kernel_rfl) (by kernel_rfl) (by kernel_rfl) (nt := 24) (by kernel_rfl) (by kernel_rfl) (T := [(0, .int .i64 code0)]) (O := []) (by kernel_rfl) (by kernel_rfl) (fun c hc => ?_)
  refine Wp.seqN (by kernel_rfl) ?_
  refine Wp.reg tiok mix hc (by kernel_rfl) (ah := none) (rs := [some (.no), some (.no)]) (kt := [0]) (ko := []) (T' := [(0, .int .i64 code0)]) (O' := []) (by kernel_rfl) trivial (by kernel_rfl) (by kernel_rfl) ?_
  refine seqQ_norm ?_
  refine Wp.seqN (by kernel_rfl) ?_
  refine Wp.blockN (i := 0) (by kernel_rfl) ?_
  refine Wp.seqN (by kernel_rfl) ?_
  obtain ⟨r_1_1, hr_1_1, h⟩ := bsome h
  refine Wp.reg tiok mix hc (by kernel_rfl) (ah := none) (rs := [some (.no), some (.call (.bool r_1_1) [] 1), some (.no)]) (kt := [0, 4]) (ko := []) (T' := [(0, .int .i64 code0), (4, .bool r_1_1)]) (O' := []) (by kernel_rfl) (And.intro (impl_within_s _ _ hr_1_1) (And.intro bod_64 (And.intro (Or.inl rfl : ([] : List Nat) = [] ∨ noSh (.bool r_1_1) = true) trivial))) (by kernel_rfl) (by kernel_rfl) ?_
  refine seqQ_norm ?_
  rcases itesome h with ⟨hb_1, h⟩ | ⟨hb_1, h⟩
  · refine Wp.condT (b := r_1_1) (by kernel_rfl) (by kernel_rfl) hb_1 ?_
    refine Wp.seqN (by kernel_rfl) ?_
    refine Wp.reg tiok mix hc (by kernel_rfl) (ah := none) (rs := [some (.no), some (.no), some (.no)]) (kt := [2, 3]) (ko := []) (T' := [(2, .int .i64 code0), (3, .int .i64 (-1))]) (O' := []) (by kernel_rfl) trivial (by kernel_rfl) (by kernel_rfl) ?_
    refine seqQ_norm ?_
    refine Wp.retN (by kernel_rfl) ?_
    refine blockQ_ret ?_
    refine seqQ_ret ?_
    obtain rfl := Option.some.inj h
    exact RetQ.ret (fl := [true, true]) (by kernel_rfl)
  · refine Wp.condF (b := r_1_1) (by kernel_rfl) (by kernel_rfl) hb_1 ?_
    refine Wp.seqN (by kernel_rfl) ?_
    obtain ⟨r_3_1, hr_3_1, h⟩ := bsome h
    refine Wp.reg tiok mix hc (by kernel_rfl) (ah := none) (rs := [some (.no), some (.call (.bool r_3_1) [] 1), some (.no)]) (kt := [0, 8]) (ko := []) (T' := [(0, .int .i64 code0), (8, .bool r_3_1)]) (O' := []) (by kernel_rfl) (And.intro (impl_within_s _ _ hr_3_1) (And.intro bod_64 (And.intro (Or.inl rfl : ([] : List Nat) = [] ∨ noSh (.bool r_3_1) = true) trivial))) (by kernel_rfl) (by kernel_rfl) ?_
    refine seqQ_norm ?_
    rcases itesome h with ⟨hb_2, h⟩ | ⟨hb_2, h⟩
    · refine Wp.condT (b := r_3_1) (by kernel_rfl) (by kernel_rfl) hb_2 ?_
      refine Wp.seqN (by kernel_rfl) ?_
      refine Wp.reg tiok mix hc (by kernel_rfl) (ah := none) (rs := [some (.no), some (.no), some (.no), some (.no)]) (kt := [2, 3]) (ko := []) (T' := [(2, .int .i64 3), (3, .int .i64 (wr (code0 - 3)))]) (O' := []) (by kernel_rfl) trivial (by kernel_rfl) (by kernel_rfl) ?_
      refine seqQ_norm ?_
      refine Wp.retN (by kernel_rfl) ?_
      refine blockQ_ret ?_
      refine seqQ_ret ?_
      obtain rfl := Option.some.inj h
      exact RetQ.ret (fl := [true, true]) (by kernel_rfl)
    · refine Wp.condF (b := r_3_1) (by kernel_rfl) (by kernel_rfl) hb_2 ?_
      refine Wp.seqN (by kernel_rfl) ?_
      obtain ⟨r_5_1, hr_5_1, h⟩ := bsome h
      refine Wp.reg tiok mix hc (by kernel_rfl) (ah := none) (rs := [some (.no), some (.call (.bool r_5_1) [] 1), some (.no)]) (kt := [0, 13]) (ko := []) (T' := [(0, .int .i64 code0), (13, .bool r_5_1)]) (O' := []) (by kernel_rfl) (And.intro (impl_within_s _ _ hr_5_1) (And.intro bod_64 (And.intro (Or.inl rfl : ([] : List Nat) = [] ∨ noSh (.bool r_5_1) = true) trivial))) (by kernel_rfl) (by kernel_rfl) ?_
      refine seqQ_norm ?_
      rcases itesome h with ⟨hb_3, h⟩ | ⟨hb_3, h⟩
      · refine Wp.condT (b := r_5_1) (by kernel_rfl) (by kernel_rfl) hb_3 ?_
        refine Wp.seqN (by kernel_rfl) ?_
        refine Wp.reg tiok mix hc (by kernel_rfl) (ah := none) (rs := [some (.no), some (.no), some (.no), some (.no)]) (kt := [2, 3]) (ko := []) (T' := [(2, .int .i64 4), (3, .int .i64 (wr (code0 - 19)))]) (O' := []) (by kernel_rfl) trivial (by kernel_rfl) (by kernel_rfl) ?_
        refine seqQ_norm ?_
        refine Wp.retN (by kernel_rfl) ?_
        refine blockQ_ret ?_
        refine seqQ_ret ?_
        obtain rfl := Option.some.inj h
        exact RetQ.ret (fl := [true, true]) (by kernel_rfl)
      · refine Wp.condF (b := r_5_1) (by kernel_rfl) (by kernel_rfl) hb_3 ?_
        refine Wp.seqN (by kernel_rfl) ?_
        refine Wp.reg tiok mix hc (by kernel_rfl) (ah := none) (rs := [some (.no), some (.no), some (.no)]) (kt := [0, 18]) (ko := []) (T' := [(0, .int .i64 code0), (18, .bool (code0 == 35))]) (O' := []) (by kernel_rfl) trivial (by kernel_rfl) (by kernel_rfl) ?_
        refine seqQ_norm ?_
        rcases itesome h with ⟨hb_4, h⟩ | ⟨hb_4, h⟩
        · refine Wp.condT (b := (code0 == 35)) (by kernel_rfl) (by kernel_rfl) hb_4 ?_
          refine Wp.seqN (by kernel_rfl) ?_
          refine Wp.reg tiok mix hc (by kernel_rfl) (ah := none) (rs := [some (.no), some (.no)]) (kt := [2, 3]) (ko := []) (T' := [(2, .int .i64 3), (3, .int .i64 (-1))]) (O' := []) (by kernel_rfl) trivial (by kernel_rfl) (by kernel_rfl) ?_
          refine seqQ_norm ?_
          refine Wp.retN (by kernel_rfl) ?_
          refine blockQ_ret ?_
          refine seqQ_ret ?_
          obtain rfl := Option.some.inj h
          exact RetQ.ret (fl := [true, true]) (by kernel_rfl)
        · refine Wp.condF (b := (code0 == 35)) (by kernel_rfl) (by kernel_rfl) hb_4 ?_
          refine Wp.seqN (by kernel_rfl) ?_
          refine Wp.reg tiok mix hc (by kernel_rfl) (ah := none) (rs := [some (.no), some (.no), some (.no)]) (kt := [21]) (ko := []) (T' := [(21, .bool (code0 == 36))]) (O' := []) (by kernel_rfl) trivial (by kernel_rfl) (by kernel_rfl) ?_
          refine seqQ_norm ?_
          rcases itesome h with ⟨hb_5, h⟩ | ⟨hb_5, h⟩
          · refine Wp.condT (b := (code0 == 36)) (by kernel_rfl) (by kernel_rfl) hb_5 ?_
            refine Wp.seqN (by kernel_rfl) ?_
            refine Wp.reg tiok mix hc (by kernel_rfl) (ah := none) (rs := [some (.no), some (.no)]) (kt := [2, 3]) (ko := []) (T' := [(2, .int .i64 4), (3, .int .i64 (-1))]) (O' := []) (by kernel_rfl) trivial (by kernel_rfl) (by kernel_rfl) ?_
            refine seqQ_norm ?_
            refine Wp.retN (by kernel_rfl) ?_
            refine blockQ_ret ?_
            refine seqQ_ret ?_
            obtain rfl := Option.some.inj h
            exact RetQ.ret (fl := [true, true]) (by kernel_rfl)
          · refine Wp.condF (b := (code0 == 36)) (by kernel_rfl) (by kernel_rfl) hb_5 ?_
            refine Wp.skipN (by kernel_rfl) ?_
            refine blockQ_norm ?_
            refine seqQ_norm ?_
            refine Wp.seqN (by kernel_rfl) ?_
            refine Wp.reg tiok mix hc (by kernel_rfl) (ah := none) (rs := [some (.no), some (.no)]) (kt := [2, 3]) (ko := []) (T' := [(2, .int .i64 5), (3, .int .i64 (-1))]) (O' := []) (by kernel_rfl) trivial (by kernel_rfl) (by kernel_rfl) ?_
            refine seqQ_norm ?_
            refine Wp.retN (by kernel_rfl) ?_
            obtain rfl := Option.some.inj h
            exact RetQ.ret (fl := [true, true]) (by kernel_rfl)
def impl_typeEnd (p : (List Int) × Int) : Option (Int) :=
  match p with
  | (ty0, at1) =>
    (
      if (decide (at1 < 0)) = true then
        some (true)
      else
        some ((decide (at1 ≥ (ty0.length : Int))))
    ) >>= fun v_1 =>
    if v_1 = true then
      some (-1)
    else
      (idx ty0 at1) >>= fun e_3_2 =>
      (impl_shape e_3_2) >>= fun (r_3_4_0, r_3_4_1) =>
      if (r_3_4_0 == 0) = true then
        some (wr (at1 + 1))
      else
        if (r_3_4_0 == 4) = true then
          (impl_typeEnd (ty0, (wr (at1 + 1)))) >>= fun r_8_3 =>
          some r_8_3
        else
          if (r_3_4_0 == 5) = true then
            some (-1)
          else
            (impl_typeEnd (ty0, (wr (at1 + 1)))) >>= fun r_11_4 =>
            (impl_typeEnd (ty0, r_11_4)) >>= fun r_11_5 =>
            some r_11_5
  partial_fixpoint
def M_impl_typeEnd (p : (List Int) × Int) (r : Int) : Prop :=
  match p with
  | (ty0, at1) => FnSound Try.prog 151 [.sl (List.map I ty0), .int .i64 at1] (.int .i64 r) []
theorem impl_typeEnd_s : ∀ p r, impl_typeEnd p = some r → M_impl_typeEnd p r := by
  refine impl_typeEnd.partial_correctness M_impl_typeEnd ?_
  rintro impl_typeEnd_f impl_typeEnd_ih ⟨ty0, at1⟩ r h
  show FnSound Try.prog 151 [.sl (List.map I ty0), .int .i64 at1] (.int .i64 r) []
  refine FnSound.body0 tiok (fn := Try.f151) (code := B151) (by kernel_rfl) (by kernel_rfl) (by kernel_rfl) (by kernel_rfl) (nt := 42) (by kernel_rfl) (by kernel_rfl) (T := [(0, .sl (List.map I ty0)), (1, .int .i64 at1)]) (O := []) (by kernel_rfl) (by kernel_rfl) (fun c hc => ?_)
  refine Wp.seqN (by kernel_rfl) ?_
  refine Wp.reg tiok mix hc (by kernel_rfl) (ah := none) (rs := [some (.no)]) (kt := [0, 1]) (ko := []) (T' := [(0, .sl (List.map I ty0)), (1, .int .i64 at1)]) (O' := []) (by kernel_rfl) trivial (by kernel_rfl) (by kernel_rfl) ?_
  refine seqQ_norm ?_
  refine Wp.seqN (by kernel_rfl) ?_
  refine Wp.seqN (by kernel_rfl) ?_
  obtain ⟨v_1, hj_2, h⟩ := bsome h
  refine Wp.into (x := .normal) (mkS [(0, .sl (List.map I ty0)), (1, .int .i64 at1), (14, .bool v_1)] []) ?_ ?_
  · replace h := hj_2
    rcases itesome h with ⟨hb_1_0, h⟩ | ⟨hb_1_0, h⟩
    · refine Wp.reg tiok mix hc (by kernel_rfl) (ah := none) (rs := [some (.no), some (.no), some (.no), none, none, none, none, some (.cond true)]) (kt := [0, 1, 14]) (ko := []) (T' := [(0, .sl (List.map I ty0)), (1, .int .i64 at1), (14, .bool true)]) (O' := []) (by kernel_rfl) (And.intro (neF hb_1_0 : (decide (at1 < 0)) ≠ false) (And.intro (neF hb_1_0 : (decide (at1 < 0)) ≠ false) (And.intro (neF hb_1_0 : (decide (at1 < 0)) ≠ false) (And.intro (neF hb_1_0 : (decide (at1 < 0)) ≠ false) (And.intro hb_1_0 trivial))))) (by kernel_rfl) (by kernel_rfl) ?_
      obtain rfl := Option.some.inj h
      exact Into.mk
    · refine Wp.reg tiok mix hc (by kernel_rfl) (ah := none) (rs := [some (.no), some (.no), some (.no), some (.no), some (.no), some (.eqv (.no) ⟨[(12, .int .i64 (ty0.length : Int))], [], []⟩), some (.no), some (.cond false)]) (kt := [0, 1, 14]) (ko := []) (T' := [(0, .sl (List.map I ty0)), (1, .int .i64 at1), (14, .bool (decide (at1 ≥ (ty0.length : Int))))]) (O' := []) (by kernel_rfl) (And.intro hb_1_0 (And.intro hb_1_0 (And.intro hb_1_0 (And.intro (lenT (d := 12) I ty0) (And.intro hb_1_0 (And.intro hb_1_0 trivial)))))) (by kernel_rfl) (by kernel_rfl) ?_
      obtain rfl := Option.some.inj h
      exact Into.mk
  · clear hj_2
    refine seqQ_norm ?_
    rcases itesome h with ⟨hb_3, h⟩ | ⟨hb_3, h⟩
    · refine Wp.condT (b := v_1) (by kernel_rfl) (by kernel_rfl) hb_3 ?_
      refine Wp.seqN (by kernel_rfl) ?_
      refine Wp.reg tiok mix hc (by kernel_rfl) (ah := none) (rs := [some (.no)]) (kt := [4]) (ko := []) (T' := [(4, .int .i64 (-1))]) (O' := []) (by kernel_rfl) trivial (by kernel_rfl) (by kernel_rfl) ?_
      refine seqQ_norm ?_
      refine Wp.retN (by kernel_rfl) ?_
      refine seqQ_ret ?_
      obtain rfl := Option.some.inj h
      exact RetQ.ret (fl := [true]) (by kernel_rfl)
    · refine Wp.condF (b := v_1) (by kernel_rfl) (by kernel_rfl) hb_3 ?_
      refine Wp.skipN (by kernel_rfl) ?_
      refine seqQ_norm ?_
      refine Wp.seqN (by kernel_rfl) ?_
      obtain ⟨e_3_2, hi_3_2, h⟩ := bsome h
      obtain ⟨⟨r_3_4_0, r_3_4_1⟩, hr_3_4, h⟩ := bsome h
      refine Wp.reg tiok mix hc (by kernel_rfl) (ah := none) (rs := [some (.no), some (.no), some (.el (.int .i64 e_3_2)), some (.no), some (.call (.tup [.int .i64 r_3_4_0, .int .i64 r_3_4_1]) [] 1), some (.no), some (.no), some (.no), some (.no), some (.no)]) (kt := [0, 1, 5]) (ko := []) (T' := [(0, .sl (List.map I ty0)), (1, .int .i64 at1), (5, .int .i64 r_3_4_0)]) (O' := []) (by kernel_rfl) (And.intro (idx_sl (enc := I) (x := .int .i64 e_3_2) hi_3_2 (eq_I e_3_2)) (And.intro (impl_shape_s _ _ hr_3_4) (And.intro bod_103 (And.intro (Or.inl rfl : ([] : List Nat) = [] ∨ noSh (.tup [.int .i64 r_3_4_0, .int .i64 r_3_4_1]) = true) trivial)))) (by kernel_rfl) (by kernel_rfl) ?_
      refine seqQ_norm ?_
      refine Wp.seqN (by kernel_rfl) ?_
      refine Wp.seqN (by kernel_rfl) ?_
      refine Wp.reg tiok mix hc (by kernel_rfl) (ah := none) (rs := [some (.no)]) (kt := [0, 1, 23]) (ko := []) (T' := [(0, .sl (List.map I ty0)), (1, .int .i64 at1), (23, .int .i64 r_3_4_0)]) (O' := []) (by kernel_rfl) trivial (by kernel_rfl) (by kernel_rfl) ?_
      refine seqQ_norm ?_
      refine Wp.blockN (i := 0) (by kernel_rfl) ?_
      refine Wp.seqN (by kernel_rfl) ?_
      refine Wp.reg tiok mix hc (by kernel_rfl) (ah := none) (rs := [some (.no), some (.no)]) (kt := [0, 1, 23, 24]) (ko := []) (T' := [(0, .sl (List.map I ty0)), (1, .int .i64 at1), (23, .int .i64 r_3_4_0), (24, .bool (r_3_4_0 == 0))]) (O' := []) (by kernel_rfl) trivial (by kernel_rfl) (by kernel_rfl) ?_
      refine seqQ_norm ?_
      rcases itesome h with ⟨hb_4, h⟩ | ⟨hb_4, h⟩
      · refine Wp.condT (b := (r_3_4_0 == 0)) (by kernel_rfl) (by kernel_rfl) hb_4 ?_
        refine Wp.seqN (by kernel_rfl) ?_
        refine Wp.reg tiok mix hc (by kernel_rfl) (ah := none) (rs := [some (.no), some (.no), some (.no)]) (kt := [4]) (ko := []) (T' := [(4, .int .i64 (wr (at1 + 1)))]) (O' := []) (by kernel_rfl) trivial (by kernel_rfl) (by kernel_rfl) ?_
        refine seqQ_norm ?_
        refine Wp.retN (by kernel_rfl) ?_
        refine blockQ_ret ?_
        refine seqQ_ret ?_
        obtain rfl := Option.some.inj h
        exact RetQ.ret (fl := [true]) (by kernel_rfl)
      · refine Wp.condF (b := (r_3_4_0 == 0)) (by kernel_rfl) (by kernel_rfl) hb_4 ?_
        refine Wp.seqN (by kernel_rfl) ?_
        refine Wp.reg tiok mix hc (by kernel_rfl) (ah := none) (rs := [some (.no), some (.no)]) (kt := [0, 1, 23, 28]) (ko := []) (T' := [(0, .sl (List.map I ty0)), (1, .int .i64 at1), (23, .int .i64 r_3_4_0), (28, .bool (r_3_4_0 == 4))]) (O' := []) (by kernel_rfl) trivial (by kernel_rfl) (by kernel_rfl) ?_
        refine seqQ_norm ?_
        rcases itesome h with ⟨hb_5, h⟩ | ⟨hb_5, h⟩
        · refine Wp.condT (b := (r_3_4_0 == 4)) (by kernel_rfl) (by kernel_rfl) hb_5 ?_
          refine Wp.seqN (by kernel_rfl) ?_
          obtain ⟨r_8_3, hr_8_3, h⟩ := bsome h
          refine Wp.reg tiok mix hc (by kernel_rfl) (ah := none) (rs := [some (.no), some (.no), some (.no), some (.call (.int .i64 r_8_3) [] 1), some (.no)]) (kt := [4]) (ko := []) (T' := [(4, .int .i64 r_8_3)]) (O' := []) (by kernel_rfl) (And.intro (impl_typeEnd_ih _ _ hr_8_3) (And.intro bod_151 (And.intro (Or.inl rfl : ([] : List Nat) = [] ∨ noSh (.int .i64 r_8_3) = true) trivial))) (by kernel_rfl) (by kernel_rfl) ?_
          refine seqQ_norm ?_
          refine Wp.retN (by kernel_rfl) ?_
          refine blockQ_ret ?_
          refine seqQ_ret ?_
          obtain rfl := Option.some.inj h
          exact RetQ.ret (fl := [true]) (by kernel_rfl)
        · refine Wp.condF (b := (r_3_4_0 == 4)) (by kernel_rfl) (by kernel_rfl) hb_5 ?_
          refine Wp.seqN (by kernel_rfl) ?_
          refine Wp.reg tiok mix hc (by kernel_rfl) (ah := none) (rs := [some (.no), some (.no)]) (kt := [0, 1, 34]) (ko := []) (T' := [(0, .sl (List.map I ty0)), (1, .int .i64 at1), (34, .bool (r_3_4_0 == 5))]) (O' := []) (by kernel_rfl) trivial (by kernel_rfl) (by kernel_rfl) ?_
          refine seqQ_norm ?_
          rcases itesome h with ⟨hb_6, h⟩ | ⟨hb_6, h⟩
          · refine Wp.condT (b := (r_3_4_0 == 5)) (by kernel_rfl) (by kernel_rfl) hb_6 ?_
            refine Wp.seqN (by kernel_rfl) ?_
            refine Wp.reg tiok mix hc (by kernel_rfl) (ah := none) (rs := [some (.no)]) (kt := [4]) (ko := []) (T' := [(4, .int .i64 (-1))]) (O' := []) (by kernel_rfl) trivial (by kernel_rfl) (by kernel_rfl) ?_
            refine seqQ_norm ?_
            refine Wp.retN (by kernel_rfl) ?_
            refine blockQ_ret ?_
            refine seqQ_ret ?_
            obtain rfl := Option.some.inj h
            exact RetQ.ret (fl := [true]) (by kernel_rfl)
          · refine Wp.condF (b := (r_3_4_0 == 5)) (by kernel_rfl) (by kernel_rfl) hb_6 ?_
            refine Wp.skipN (by kernel_rfl) ?_
            refine blockQ_norm ?_
            refine seqQ_norm ?_
            refine Wp.seqN (by kernel_rfl) ?_
            obtain ⟨r_11_4, hr_11_4, h⟩ := bsome h
            obtain ⟨r_11_5, hr_11_5, h⟩ := bsome h
            refine Wp.reg tiok mix hc (by kernel_rfl) (ah := none) (rs := [some (.no), some (.no), some (.no), some (.no), some (.call (.int .i64 r_11_4) [] 1), some (.call (.int .i64 r_11_5) [] 1), some (.no)]) (kt := [4]) (ko := []) (T' := [(4, .int .i64 r_11_5)]) (O' := []) (by kernel_rfl) (And.intro (impl_typeEnd_ih _ _ hr_11_4) (And.intro bod_151 (And.intro (Or.inl rfl : ([] : List Nat) = [] ∨ noSh (.int .i64 r_11_4) = true) (And.intro (impl_typeEnd_ih _ _ hr_11_5) (And.intro bod_151 (And.intro (Or.inl rfl : ([] : List Nat) = [] ∨ noSh (.int .i64 r_11_5) = true) trivial)))))) (by kernel_rfl) (by kernel_rfl) ?_
            refine seqQ_norm ?_
            refine Wp.retN (by kernel_rfl) ?_
            obtain rfl := Option.some.inj h
            exact RetQ.ret (fl := [true]) (by kernel_rfl)
def impl_isWrittenType (ty0 : (List Int)) : Option (Bool) :=
    (
      (impl_within ((ty0.length : Int), 1, 40)) >>= fun r_1_2 =>
      if r_1_2 = true then
        (impl_typeEnd (ty0, 0)) >>= fun r_1_5 =>
        some ((r_1_5 == (ty0.length : Int)))
      else
        some (false)
    ) >>= fun v_1 =>
    some v_1
def M_impl_isWrittenType (ty0 : (List Int)) (r : Bool) : Prop :=
  FnSound Try.prog 150 [.sl (List.map I ty0)] (.bool r) []
theorem impl_isWrittenType_s : ∀ p r, impl_isWrittenType p = some r → M_impl_isWrittenType p r := by
  rintro ty0 r h
  unfold impl_isWrittenType at h
  show FnSound Try.prog 150 [.sl (List.map I ty0)] (.bool r) []
  refine FnSound.body0 tiok (fn := Try.f150) (code := B150) (by kernel_rfl) (by kernel_rfl) (by kernel_rfl) (by kernel_rfl) (nt := 13) (by kernel_rfl) (by kernel_rfl) (T := [(0, .sl (List.map I ty0))]) (O := []) (by kernel_rfl) (by kernel_rfl) (fun c hc => ?_)
  refine Wp.seqN (by kernel_rfl) ?_
  refine Wp.reg tiok mix hc (by kernel_rfl) (ah := none) (rs := [some (.no)]) (kt := [0]) (ko := []) (T' := [(0, .sl (List.map I ty0))]) (O' := []) (by kernel_rfl) trivial (by kernel_rfl) (by kernel_rfl) ?_
  refine seqQ_norm ?_
  refine Wp.seqN (by kernel_rfl) ?_
  obtain ⟨v_1, hj_2, h⟩ := bsome h
  refine Wp.into (x := .normal) (mkS [(2, .bool v_1)] []) ?_ ?_
  · replace h := hj_2
    obtain ⟨r_1_2, hr_1_2, h⟩ := bsome h
    rcases itesome h with ⟨hb_1_0, h⟩ | ⟨hb_1_0, h⟩
    · obtain ⟨r_1_5, hr_1_5, h⟩ := bsome h
      refine Wp.reg tiok mix hc (by kernel_rfl) (ah := none) (rs := [some (.no), some (.eqv (.no) ⟨[(4, .int .i64 (ty0.length : Int))], [], []⟩), some (.call (.bool r_1_2) [] 1), some (.no), some (.no), some (.call (.int .i64 r_1_5) [] 1), some (.no), some (.eqv (.no) ⟨[(10, .int .i64 (ty0.length : Int))], [], []⟩), some (.no), some (.cond true), some (.no)]) (kt := [2]) (ko := []) (T' := [(2, .bool (r_1_5 == (ty0.length : Int)))]) (O' := []) (by kernel_rfl) (And.intro (lenT (d := 4) I ty0) (And.intro (impl_within_s _ _ hr_1_2) (And.intro bod_64 (And.intro (Or.inl rfl : ([] : List Nat) = [] ∨ noSh (.bool r_1_2) = true) (And.intro hb_1_0 (And.intro hb_1_0 (And.intro (impl_typeEnd_s _ _ hr_1_5) (And.intro bod_151 (And.intro (Or.inl rfl : ([] : List Nat) = [] ∨ noSh (.int .i64 r_1_5) = true) (And.intro hb_1_0 (And.intro hb_1_0 (And.intro (lenT (d := 10) I ty0) (And.intro hb_1_0 (And.intro hb_1_0 trivial)))))))))))))) (by kernel_rfl) (by kernel_rfl) ?_
      obtain rfl := Option.some.inj h
      exact Into.mk
    · refine Wp.reg tiok mix hc (by kernel_rfl) (ah := none) (rs := [some (.no), some (.eqv (.no) ⟨[(4, .int .i64 (ty0.length : Int))], [], []⟩), some (.call (.bool r_1_2) [] 1), some (.no), none, none, none, none, none, some (.cond false), some (.no)]) (kt := [2]) (ko := []) (T' := [(2, .bool false)]) (O' := []) (by kernel_rfl) (And.intro (lenT (d := 4) I ty0) (And.intro (impl_within_s _ _ hr_1_2) (And.intro bod_64 (And.intro (Or.inl rfl : ([] : List Nat) = [] ∨ noSh (.bool r_1_2) = true) (And.intro (neT hb_1_0 : r_1_2 ≠ true) (And.intro (neT hb_1_0 : r_1_2 ≠ true) (And.intro (neT hb_1_0 : r_1_2 ≠ true) (And.intro (neT hb_1_0 : r_1_2 ≠ true) (And.intro (neT hb_1_0 : r_1_2 ≠ true) (And.intro hb_1_0 trivial)))))))))) (by kernel_rfl) (by kernel_rfl) ?_
      obtain rfl := Option.some.inj h
      exact Into.mk
  · clear hj_2
    refine seqQ_norm ?_
    refine Wp.retN (by kernel_rfl) ?_
    obtain rfl := Option.some.inj h
    exact RetQ.ret (fl := [true]) (by kernel_rfl)
def impl_Systemhas (p : GSystem × Int) : Option (Bool) :=
  match p with
  | (s0, g1) =>
    (impl_within (g1, 0, (wr (s0.fSize - 1)))) >>= fun r_1_4 =>
    some r_1_4
def M_impl_Systemhas (p : GSystem × Int) (r : Bool) : Prop :=
  match p with
  | (s0, g1) => FnSound Try.prog 117 [.agg [.int .i64 s0.fSize, .sl (List.map I s0.fPlus), .sl (List.map I s0.fTimes), .sl (List.map AV.bool s0.fBelow)], .int .i64 g1] (.bool r) []
theorem impl_Systemhas_s : ∀ p r, impl_Systemhas p = some r → M_impl_Systemhas p r := by
  rintro ⟨s0, g1⟩ r h
  unfold impl_Systemhas at h
  show FnSound Try.prog 117 [.agg [.int .i64 s0.fSize, .sl (List.map I s0.fPlus), .sl (List.map I s0.fTimes), .sl (List.map AV.bool s0.fBelow)], .int .i64 g1] (.bool r) []
  refine FnSound.body0 tiok (fn := Try.f117) (code := B117) (by kernel_rfl) (by kernel_rfl) (by kernel_rfl) (by kernel_rfl) (nt := 10) (by kernel_rfl) (by kernel_rfl) (T := [(0, .agg [.int .i64 s0.fSize, .sl (List.map I s0.fPlus), .sl (List.map I s0.fTimes), .sl (List.map AV.bool s0.fBelow)]), (1, .int .i64 g1)]) (O := []) (by kernel_rfl) (by kernel_rfl) (fun c hc => ?_)
  refine Wp.seqN (by kernel_rfl) ?_
  refine Wp.reg tiok mix hc (by kernel_rfl) (ah := none) (rs := [some (.new 1), some (.no)]) (kt := [1, 2]) (ko := [1]) (T' := [(1, .int .i64 g1), (2, .ra 1 0)]) (O' := [(1, .box [.int .i64 s0.fSize, .sl (List.map I s0.fPlus), .sl (List.map I s0.fTimes), .sl (List.map AV.bool s0.fBelow)])]) (by kernel_rfl) trivial (by kernel_rfl) (by kernel_rfl) ?_
  refine seqQ_norm ?_
  refine Wp.seqN (by kernel_rfl) ?_
  obtain ⟨r_1_4, hr_1_4, h⟩ := bsome h
  refine Wp.reg tiok mix hc (by kernel_rfl) (ah := none) (rs := [some (.no), some (.no), some (.no), some (.no), some (.call (.bool r_1_4) [] 1), some (.no)]) (kt := [4]) (ko := []) (T' := [(4, .bool r_1_4)]) (O' := []) (by kernel_rfl) (And.intro (impl_within_s _ _ hr_1_4) (And.intro bod_64 (And.intro (Or.inl rfl : ([] : List Nat) = [] ∨ noSh (.bool r_1_4) = true) trivial))) (by kernel_rfl) (by kernel_rfl) ?_
  refine seqQ_norm ?_
  refine Wp.retN (by kernel_rfl) ?_
  obtain rfl := Option.some.inj h
  exact RetQ.ret (fl := [true]) (by kernel_rfl)
def impl_isTypeOf_F1 (c : Ctx) : (Unit) ⊕ (Bool) → Exit → AState → Prop
  | .inl _ => Into c (.exit 0) (mkS [] [])
  | .inr r => RetE TIx Try.f102 [] (.bool r)
def impl_isTypeOf_l0 (p : GSystem × (List Int) × Int) : Option ((Unit) ⊕ (Bool)) :=
  match p with
  | (s0, ty1, w_6) =>
    if (decide (w_6 < (ty1.length : Int))) = true then
      (idx ty1 w_6) >>= fun e_5_0 =>
      (impl_shape e_5_0) >>= fun (r_6_1_0, r_6_1_1) =>
      (
        if (r_6_1_0 == 3) = true then
          (impl_Systemhas (s0, r_6_1_1)) >>= fun r_7_9 =>
          some ((!r_7_9))
        else
          if (r_6_1_0 == 4) = true then
            (impl_Systemhas (s0, r_6_1_1)) >>= fun r_7_9 =>
            some ((!r_7_9))
          else
            some (false)
      ) >>= fun v_8 =>
      if v_8 = true then
        some (.inr false)
      else
        impl_isTypeOf_l0 (s0, ty1, (wr (w_6 + 1)))
    else
      some (.inl ())
  partial_fixpoint
def M_impl_isTypeOf_l0 (p : GSystem × (List Int) × Int) (fl : (Unit) ⊕ (Bool)) : Prop :=
  match p with
  | (s0, ty1, w_6) => ∀ c : Ctx, c.nt = 36 → WpL Try.prog c (cl (cl (cr (cl (cr (cr B102)))))) (impl_isTypeOf_F1 c fl) (mkS [(2, .ra 1 0), (12, .sl (List.map I ty1)), (13, .int .i64 (ty1.length : Int)), (14, .int .i64 w_6)] [(1, .box [.int .i64 s0.fSize, .sl (List.map I s0.fPlus), .sl (List.map I s0.fTimes), .sl (List.map AV.bool s0.fBelow)])])
theorem impl_isTypeOf_l0_s : ∀ p r, impl_isTypeOf_l0 p = some r → M_impl_isTypeOf_l0 p r := by
  refine impl_isTypeOf_l0.partial_correctness M_impl_isTypeOf_l0 ?_
  rintro impl_isTypeOf_l0_f impl_isTypeOf_l0_ih ⟨s0, ty1, w_6⟩ r h
  intro c hc
  show WpL Try.prog c (cl (cl (cr (cl (cr (cr B102)))))) (impl_isTypeOf_F1 c r) (mkS [(2, .ra 1 0), (12, .sl (List.map I ty1)), (13, .int .i64 (ty1.length : Int)), (14, .int .i64 w_6)] [(1, .box [.int .i64 s0.fSize, .sl (List.map I s0.fPlus), .sl (List.map I s0.fTimes), .sl (List.map AV.bool s0.fBelow)])])
  refine WpL.step ?_
  refine Wp.seqN (by kernel_rfl) ?_
  refine Wp.reg tiok mix hc (by kernel_rfl) (ah := none) (rs := [some (.no)]) (kt := [2, 12, 13, 14, 15]) (ko := [1]) (T' := [(2, .ra 1 0), (12, .sl (List.map I ty1)), (13, .int .i64 (ty1.length : Int)), (14, .int .i64 w_6), (15, .bool (decide (w_6 < (ty1.length : Int))))]) (O' := [(1, .box [.int .i64 s0.fSize, .sl (List.map I s0.fPlus), .sl (List.map I s0.fTimes), .sl (List.map AV.bool s0.fBelow)])]) (by kernel_rfl) trivial (by kernel_rfl) (by kernel_rfl) ?_
  refine seqQ_norm ?_
  refine Wp.seqN (by kernel_rfl) ?_
  rcases itesome h with ⟨hb_7, h⟩ | ⟨hb_7, h⟩
  · refine Wp.condT (b := (decide (w_6 < (ty1.length : Int)))) (by kernel_rfl) (by kernel_rfl) hb_7 ?_
    refine Wp.skipN (by kernel_rfl) ?_
    refine seqQ_norm ?_
    refine Wp.seqN (by kernel_rfl) ?_
    refine Wp.blockN (i := 1) (by kernel_rfl) ?_
    refine Wp.seqN (by kernel_rfl) ?_
    obtain ⟨e_5_0, hi_5_0, h⟩ := bsome h
    refine Wp.reg tiok mix hc (by kernel_rfl) (ah := none) (rs := [some (.el (.int .i64 e_5_0)), some (.no), some (.no)]) (kt := [2, 6, 12, 13, 14]) (ko := [1]) (T' := [(2, .ra 1 0), (6, .int .i64 e_5_0), (12, .sl (List.map I ty1)), (13, .int .i64 (ty1.length : Int)), (14, .int .i64 w_6)]) (O' := [(1, .box [.int .i64 s0.fSize, .sl (List.map I s0.fPlus), .sl (List.map I s0.fTimes), .sl (List.map AV.bool s0.fBelow)])]) (by kernel_rfl) (And.intro (idx_sl (enc := I) (x := .int .i64 e_5_0) hi_5_0 (eq_I e_5_0)) trivial) (by kernel_rfl) (by kernel_rfl) ?_
    refine seqQ_norm ?_
    refine Wp.seqN (by kernel_rfl) ?_
    obtain ⟨⟨r_6_1_0, r_6_1_1⟩, hr_6_1, h⟩ := bsome h
    refine Wp.reg tiok mix hc (by kernel_rfl) (ah := none) (rs := [some (.no), some (.call (.tup [.int .i64 r_6_1_0, .int .i64 r_6_1_1]) [] 1), some (.no), some (.no), some (.no), some (.no), some (.no)]) (kt := [2, 7, 8, 12, 13, 14]) (ko := [1]) (T' := [(2, .ra 1 0), (7, .int .i64 r_6_1_0), (8, .int .i64 r_6_1_1), (12, .sl (List.map I ty1)), (13, .int .i64 (ty1.length : Int)), (14, .int .i64 w_6)]) (O' := [(1, .box [.int .i64 s0.fSize, .sl (List.map I s0.fPlus), .sl (List.map I s0.fTimes), .sl (List.map AV.bool s0.fBelow)])]) (by kernel_rfl) (And.intro (impl_shape_s _ _ hr_6_1) (And.intro bod_103 (And.intro (Or.inl rfl : ([] : List Nat) = [] ∨ noSh (.tup [.int .i64 r_6_1_0, .int .i64 r_6_1_1]) = true) trivial))) (by kernel_rfl) (by kernel_rfl) ?_
    refine seqQ_norm ?_
    refine Wp.seqN (by kernel_rfl) ?_
    obtain ⟨v_8, hj_9, h⟩ := bsome h
    refine Wp.into (x := .normal) (mkS [(2, .ra 1 0), (12, .sl (List.map I ty1)), (13, .int .i64 (ty1.length : Int)), (14, .int .i64 w_6), (34, .bool v_8)] [(1, .box [.int .i64 s0.fSize, .sl (List.map I s0.fPlus), .sl (List.map I s0.fTimes), .sl (List.map AV.bool s0.fBelow)])]) ?_ ?_
    · replace h := hj_9
      rcases itesome h with ⟨hb_7_0, h⟩ | ⟨hb_7_0, h⟩
      · obtain ⟨r_7_9, hr_7_9, h⟩ := bsome h
        refine Wp.reg tiok mix hc (by kernel_rfl) (ah := none) (rs := [some (.no), some (.no), some (.no), none, none, some (.cond true), some (.no), some (.no), some (.no), some (.call (.bool r_7_9) [] 1), some (.no), some (.cond true)]) (kt := [2, 12, 13, 14, 34]) (ko := [1]) (T' := [(2, .ra 1 0), (12, .sl (List.map I ty1)), (13, .int .i64 (ty1.length : Int)), (14, .int .i64 w_6), (34, .bool (!r_7_9))]) (O' := [(1, .box [.int .i64 s0.fSize, .sl (List.map I s0.fPlus), .sl (List.map I s0.fTimes), .sl (List.map AV.bool s0.fBelow)])]) (by kernel_rfl) (And.intro (neF hb_7_0 : (r_6_1_0 == 3) ≠ false) (And.intro (neF hb_7_0 : (r_6_1_0 == 3) ≠ false) (And.intro hb_7_0 (And.intro (rfl : true = true) (And.intro (rfl : true = true) (And.intro (rfl : true = true) (And.intro (impl_Systemhas_s _ _ hr_7_9) (And.intro bod_117 (And.intro (Or.inl rfl : ([] : List Nat) = [] ∨ noSh (.bool r_7_9) = true) (And.intro (rfl : true = true) (And.intro (rfl : true = true) trivial))))))))))) (by kernel_rfl) (by kernel_rfl) ?_
        obtain rfl := Option.some.inj h
        exact Into.mk
      · rcases itesome h with ⟨hb_7_1, h⟩ | ⟨hb_7_1, h⟩
        · obtain ⟨r_7_9, hr_7_9, h⟩ := bsome h
          refine Wp.reg tiok mix hc (by kernel_rfl) (ah := none) (rs := [some (.no), some (.no), some (.no), some (.no), some (.no), some (.cond false), some (.no), some (.no), some (.no), some (.call (.bool r_7_9) [] 1), some (.no), some (.cond true)]) (kt := [2, 12, 13, 14, 34]) (ko := [1]) (T' := [(2, .ra 1 0), (12, .sl (List.map I ty1)), (13, .int .i64 (ty1.length : Int)), (14, .int .i64 w_6), (34, .bool (!r_7_9))]) (O' := [(1, .box [.int .i64 s0.fSize, .sl (List.map I s0.fPlus), .sl (List.map I s0.fTimes), .sl (List.map AV.bool s0.fBelow)])]) (by kernel_rfl) (And.intro hb_7_0 (And.intro hb_7_0 (And.intro hb_7_0 (And.intro hb_7_1 (And.intro hb_7_1 (And.intro hb_7_1 (And.intro (impl_Systemhas_s _ _ hr_7_9) (And.intro bod_117 (And.intro (Or.inl rfl : ([] : List Nat) = [] ∨ noSh (.bool r_7_9) = true) (And.intro hb_7_1 (And.intro hb_7_1 trivial))))))))))) (by kernel_rfl) (by kernel_rfl) ?_
          obtain rfl := Option.some.inj h
          exact Into.mk
        · refine Wp.reg tiok mix hc (by kernel_rfl) (ah := none) (rs := [some (.no), some (.no), some (.no), some (.no), some (.no), some (.cond false), some (.no), none, none, none, none, some (.cond false)]) (kt := [2, 12, 13, 14, 34]) (ko := [1]) (T' := [(2, .ra 1 0), (12, .sl (List.map I ty1)), (13, .int .i64 (ty1.length : Int)), (14, .int .i64 w_6), (34, .bool false)]) (O' := [(1, .box [.int .i64 s0.fSize, .sl (List.map I s0.fPlus), .sl (List.map I s0.fTimes), .sl (List.map AV.bool s0.fBelow)])]) (by kernel_rfl) (And.intro hb_7_0 (And.intro hb_7_0 (And.intro hb_7_0 (And.intro (neT hb_7_1 : (r_6_1_0 == 4) ≠ true) (And.intro (neT hb_7_1 : (r_6_1_0 == 4) ≠ true) (And.intro (neT hb_7_1 : (r_6_1_0 == 4) ≠ true) (And.intro (neT hb_7_1 : (r_6_1_0 == 4) ≠ true) (And.intro hb_7_1 trivial)))))))) (by kernel_rfl) (by kernel_rfl) ?_
          obtain rfl := Option.some.inj h
          exact Into.mk
    · clear hj_9
      refine seqQ_norm ?_
      rcases itesome h with ⟨hb_10, h⟩ | ⟨hb_10, h⟩
      · refine Wp.condT (b := v_8) (by kernel_rfl) (by kernel_rfl) hb_10 ?_
        refine Wp.seqN (by kernel_rfl) ?_
        refine Wp.reg tiok mix hc (by kernel_rfl) (ah := none) (rs := [some (.no)]) (kt := [4]) (ko := []) (T' := [(4, .bool false)]) (O' := []) (by kernel_rfl) trivial (by kernel_rfl) (by kernel_rfl) ?_
        refine seqQ_norm ?_
        refine Wp.retN (by kernel_rfl) ?_
        refine blockQ_ret ?_
        refine seqQ_ret ?_
        refine loopQ_ret ?_
        obtain rfl := Option.some.inj h
        exact RetE.ret (fl := [true]) (by kernel_rfl)
      · refine Wp.condF (b := v_8) (by kernel_rfl) (by kernel_rfl) hb_10 ?_
        refine Wp.skipN (by kernel_rfl) ?_
        refine blockQ_norm ?_
        refine seqQ_norm ?_
        refine Wp.reg tiok mix hc (by kernel_rfl) (ah := none) (rs := [some (.no), some (.no)]) (kt := [2, 12, 13, 14]) (ko := [1]) (T' := [(2, .ra 1 0), (12, .sl (List.map I ty1)), (13, .int .i64 (ty1.length : Int)), (14, .int .i64 (wr (w_6 + 1)))]) (O' := [(1, .box [.int .i64 s0.fSize, .sl (List.map I s0.fPlus), .sl (List.map I s0.fTimes), .sl (List.map AV.bool s0.fBelow)])]) (by kernel_rfl) trivial (by kernel_rfl) (by kernel_rfl) ?_
        refine loopQ_norm ?_
        exact (impl_isTypeOf_l0_ih _ _ h c hc)
  · refine Wp.condF (b := (decide (w_6 < (ty1.length : Int)))) (by kernel_rfl) (by kernel_rfl) hb_7 ?_
    refine Wp.exitN (i := 0) (by kernel_rfl) ?_
    refine seqQ_exit ?_
    refine loopQ_exit ?_
    obtain rfl := Option.some.inj h
    exact Into.view (fun a w hv => SRx.renL [] hv (by kernel_rfl) (by kernel_rfl) (by kernel_rfl))
def impl_isTypeOf (p : GSystem × (List Int)) : Option (Bool) :=
  match p with
  | (s0, ty1) =>
    (impl_isWrittenType ty1) >>= fun r_1_1 =>
    if r_1_1 = true then
      (impl_isTypeOf_l0 (s0, ty1, 0)) >>= fun fl => match fl with
      | .inl () =>
        some true
      | .inr r =>
        some r
    else
      some false
def M_impl_isTypeOf (p : GSystem × (List Int)) (r : Bool) : Prop :=
  match p with
  | (s0, ty1) => FnSound Try.prog 102 [.agg [.int .i64 s0.fSize, .sl (List.map I s0.fPlus), .sl (List.map I s0.fTimes), .sl (List.map AV.bool s0.fBelow)], .sl (List.map I ty1)] (.bool r) []
theorem impl_isTypeOf_s : ∀ p r, impl_isTypeOf p = some r → M_impl_isTypeOf p r := by
  rintro ⟨s0, ty1⟩ r h
  unfold impl_isTypeOf at h
  show FnSound Try.prog 102 [.agg [.int .i64 s0.fSize, .sl (List.map I s0.fPlus), .sl (List.map I s0.fTimes), .sl (List.map AV.bool s0.fBelow)], .sl (List.map I ty1)] (.bool r) []
  refine FnSound.body0 tiok (fn := Try.f102) (code := B102) (by kernel_rfl) (by kernel_rfl) (by kernel_rfl) (by kernel_rfl) (nt := 36) (by kernel_rfl) (by kernel_rfl) (T := [(0, .agg [.int .i64 s0.fSize, .sl (List.map I s0.fPlus), .sl (List.map I s0.fTimes), .sl (List.map AV.bool s0.fBelow)]), (1, .sl (List.map I ty1))]) (O := []) (by kernel_rfl) (by kernel_rfl) (fun c hc => ?_)
  refine Wp.seqN (by kernel_rfl) ?_
  refine Wp.reg tiok mix hc (by kernel_rfl) (ah := none) (rs := [some (.new 1), some (.no)]) (kt := [1, 2]) (ko := [1]) (T' := [(1, .sl (List.map I ty1)), (2, .ra 1 0)]) (O' := [(1, .box [.int .i64 s0.fSize, .sl (List.map I s0.fPlus), .sl (List.map I s0.fTimes), .sl (List.map AV.bool s0.fBelow)])]) (by kernel_rfl) trivial (by kernel_rfl) (by kernel_rfl) ?_
  refine seqQ_norm ?_
  refine Wp.seqN (by kernel_rfl) ?_
  refine Wp.seqN (by kernel_rfl) ?_
  obtain ⟨r_1_1, hr_1_1, h⟩ := bsome h
  refine Wp.reg tiok mix hc (by kernel_rfl) (ah := none) (rs := [some (.no), some (.call (.bool r_1_1) [] 1), some (.no)]) (kt := [1, 2, 11]) (ko := [1]) (T' := [(1, .sl (List.map I ty1)), (2, .ra 1 0), (11, .bool (!r_1_1))]) (O' := [(1, .box [.int .i64 s0.fSize, .sl (List.map I s0.fPlus), .sl (List.map I s0.fTimes), .sl (List.map AV.bool s0.fBelow)])]) (by kernel_rfl) (And.intro (impl_isWrittenType_s _ _ hr_1_1) (And.intro bod_150 (And.intro (Or.inl rfl : ([] : List Nat) = [] ∨ noSh (.bool r_1_1) = true) trivial))) (by kernel_rfl) (by kernel_rfl) ?_
  refine seqQ_norm ?_
  rcases itesome h with ⟨hb_1, h⟩ | ⟨hb_1, h⟩
  · refine Wp.condF (b := (!r_1_1)) (by kernel_rfl) (by kernel_rfl) (nF hb_1) ?_
    refine Wp.skipN (by kernel_rfl) ?_
    refine seqQ_norm ?_
    refine Wp.seqN (by kernel_rfl) ?_
    refine Wp.seqN (by kernel_rfl) ?_
    refine Wp.reg tiok mix hc (by kernel_rfl) (ah := none) (rs := [some (.no), some (.eqv (.no) ⟨[(13, .int .i64 (ty1.length : Int))], [], []⟩), some (.no)]) (kt := [2, 12, 13, 14]) (ko := [1]) (T' := [(2, .ra 1 0), (12, .sl (List.map I ty1)), (13, .int .i64 (ty1.length : Int)), (14, .int .i64 0)]) (O' := [(1, .box [.int .i64 s0.fSize, .sl (List.map I s0.fPlus), .sl (List.map I s0.fTimes), .sl (List.map AV.bool s0.fBelow)])]) (by kernel_rfl) (And.intro (lenT (d := 13) I ty1) trivial) (by kernel_rfl) (by kernel_rfl) ?_
    refine seqQ_norm ?_
    refine Wp.blockN (i := 0) (by kernel_rfl) ?_
    obtain ⟨fl, hl_11, h⟩ := bsome h
    have hL := impl_isTypeOf_l0_s _ _ hl_11 c hc
    refine Wp.loopN (by kernel_rfl) ?_
    rcases fl with ⟨⟩ | r
    · refine WpL.into (e := (.exit 0)) (mkS [] []) hL ?_
      refine blockQ_hit ?_
      refine seqQ_norm ?_
      refine Wp.seqN (by kernel_rfl) ?_
      refine Wp.reg tiok mix hc (by kernel_rfl) (ah := none) (rs := [some (.no)]) (kt := [4]) (ko := []) (T' := [(4, .bool true)]) (O' := []) (by kernel_rfl) trivial (by kernel_rfl) (by kernel_rfl) ?_
      refine seqQ_norm ?_
      refine Wp.retN (by kernel_rfl) ?_
      obtain rfl := Option.some.inj h
      exact RetQ.ret (fl := [true]) (by kernel_rfl)
    · refine WpL.mono hL ?_
      rintro _ _ ⟨rfl, hfin⟩
      refine blockQ_ret ?_
      refine seqQ_ret ?_
      obtain rfl := Option.some.inj h
      exact ⟨.inl rfl, hfin⟩
  · refine Wp.condT (b := (!r_1_1)) (by kernel_rfl) (by kernel_rfl) (nT hb_1) ?_
    refine Wp.seqN (by kernel_rfl) ?_
    refine Wp.reg tiok mix hc (by kernel_rfl) (ah := none) (rs := [some (.no)]) (kt := [4]) (ko := []) (T' := [(4, .bool false)]) (O' := []) (by kernel_rfl) trivial (by kernel_rfl) (by kernel_rfl) ?_
    refine seqQ_norm ?_
    refine Wp.retN (by kernel_rfl) ?_
    refine seqQ_ret ?_
    obtain rfl := Option.some.inj h
    exact RetQ.ret (fl := [true]) (by kernel_rfl)
end Go.Am
