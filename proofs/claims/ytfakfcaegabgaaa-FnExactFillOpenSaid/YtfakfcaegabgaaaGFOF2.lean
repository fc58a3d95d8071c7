/- Functions of the program as pure functions, and that it computes them. Printed by a program of mine (gen.py). -/
import Derived.Test.YtfakfcaegabgaaaGFOF1
set_option linter.unusedVariables false
set_option linter.unusedSimpArgs false
set_option maxRecDepth 100000
namespace Go.Am
open Go Go.Proofs
def spec_FillOpen (p : GTerm × (List Int)) : Option (GTerm × Bool) :=
  match p with
  | (t0, l1) =>
    (spec_CountOpen t0) >>= fun r_1_1 =>
    if (r_1_1 != (l1.length : Int)) = true then
      some ((GTerm.mk 0 0 [] []), false)
    else
      (spec_FillOpen_l0 (t0, l1, 0)) >>= fun fl => match fl with
      | .inl () =>
        (spec_l9Fill (t0, l1)) >>= fun (r_8_2_0, r_8_2_1) =>
        some (r_8_2_0, true)
      | .inr r =>
        some r
def M_spec_FillOpen (p : GTerm × (List Int)) (r : GTerm × Bool) : Prop :=
  match p with
  | (t0, l1) => FnSound Try.prog 24 [.agg [.int .i64 t0.fOp, .int .i64 t0.fN, .sl (List.map I t0.fType), .sl (List.map GTerm_S t0.fKids)], .sl (List.map I l1)] (.tup [.agg [.int .i64 r.1.fOp, .int .i64 r.1.fN, .osl (List.map I r.1.fType), .osl (List.map GTerm_O r.1.fKids)], .bool r.2]) []
theorem spec_FillOpen_s : ∀ p r, spec_FillOpen p = some r → M_spec_FillOpen p r := by
  rintro ⟨t0, l1⟩ r h
  unfold spec_FillOpen at h
  show FnSound Try.prog 24 [.agg [.int .i64 t0.fOp, .int .i64 t0.fN, .sl (List.map I t0.fType), .sl (List.map GTerm_S t0.fKids)], .sl (List.map I l1)] (.tup [.agg [.int .i64 r.1.fOp, .int .i64 r.1.fN, .osl (List.map I r.1.fType), .osl (List.map GTerm_O r.1.fKids)], .bool r.2]) []
  refine FnSound.body0 tiok (fn := Try.f24) (code := B24) (by kernel_rfl) (by kernel_rfl) (by kernel_rfl) (by kernel_rfl) (nt := 35) (by kernel_rfl) (by kernel_rfl) (T := [(0, .agg [.int .i64 t0.fOp, .int .i64 t0.fN, .sl (List.map I t0.fType), .sl (List.map GTerm_S t0.fKids)]), (1, .sl (List.map I l1))]) (O := []) (by kernel_rfl) (by kernel_rfl) (fun c hc => ?_)
  refine Wp.seqN (by kernel_rfl) ?_
  refine Wp.reg tiok mix hc (by kernel_rfl) (ah := none) (rs := [some (.new 1), some (.new 2), some (.no)]) (kt := [1, 2, 4]) (ko := [1, 2]) (T' := [(1, .sl (List.map I l1)), (2, .ra 1 0), (4, .ra 2 0)]) (O' := [(1, .box [.int .i64 t0.fOp, .int .i64 t0.fN, .sl (List.map I t0.fType), .sl (List.map GTerm_S t0.fKids)]), (2, .box [.int .i64 0, .int .i64 0, .nils, .nils])]) (by kernel_rfl) trivial (by kernel_rfl) (by kernel_rfl) ?_
  refine seqQ_norm ?_
  refine Wp.seqN (by kernel_rfl) ?_
  refine Wp.seqN (by kernel_rfl) ?_
  obtain ⟨r_1_1, hr_1_1, h⟩ := bsome h
  refine Wp.reg tiok mix hc (by kernel_rfl) (ah := none) (rs := [some (.no), some (.call (.int .i64 r_1_1) [] 1), some (.no), some (.eqv (.no) ⟨[(12, .int .i64 (l1.length : Int))], [], []⟩), some (.no)]) (kt := [1, 2, 4, 13]) (ko := [1, 2]) (T' := [(1, .sl (List.map I l1)), (2, .ra 1 0), (4, .ra 2 0), (13, .bool (r_1_1 != (l1.length : Int)))]) (O' := [(1, .box [.int .i64 t0.fOp, .int .i64 t0.fN, .sl (List.map I t0.fType), .sl (List.map GTerm_S t0.fKids)]), (2, .box [.int .i64 0, .int .i64 0, .nils, .nils])]) (by kernel_rfl) (And.intro (spec_CountOpen_s _ _ hr_1_1) (And.intro bod_56 (And.intro (Or.inl rfl : ([] : List Nat) = [] ∨ noSh (.int .i64 r_1_1) = true) (And.intro (lenT (d := 12) I l1) trivial)))) (by kernel_rfl) (by kernel_rfl) ?_
  refine seqQ_norm ?_
  rcases itesome h with ⟨hb_1, h⟩ | ⟨hb_1, h⟩
  · refine Wp.condT (b := (r_1_1 != (l1.length : Int))) (by kernel_rfl) (by kernel_rfl) hb_1 ?_
    refine Wp.seqN (by kernel_rfl) ?_
    refine Wp.reg tiok mix hc (by kernel_rfl) (ah := none) (rs := [some (.no), some (.no), some (.no)]) (kt := [4, 5]) (ko := [2]) (T' := [(4, .ra 2 0), (5, .bool false)]) (O' := [(2, .box [.int .i64 0, .int .i64 0, .nils, .nils])]) (by kernel_rfl) trivial (by kernel_rfl) (by kernel_rfl) ?_
    refine seqQ_norm ?_
    refine Wp.retN (by kernel_rfl) ?_
    refine seqQ_ret ?_
    obtain rfl := Option.some.inj h
    exact RetQ.ret (fl := [true, true]) (by kernel_rfl)
  · refine Wp.condF (b := (r_1_1 != (l1.length : Int))) (by kernel_rfl) (by kernel_rfl) hb_1 ?_
    refine Wp.skipN (by kernel_rfl) ?_
    refine seqQ_norm ?_
    refine Wp.seqN (by kernel_rfl) ?_
    refine Wp.seqN (by kernel_rfl) ?_
    refine Wp.reg tiok mix hc (by kernel_rfl) (ah := none) (rs := [some (.no)]) (kt := [1, 2, 4, 6]) (ko := [1, 2]) (T' := [(1, .sl (List.map I l1)), (2, .ra 1 0), (4, .ra 2 0), (6, .int .i64 0)]) (O' := [(1, .box [.int .i64 t0.fOp, .int .i64 t0.fN, .sl (List.map I t0.fType), .sl (List.map GTerm_S t0.fKids)]), (2, .box [.int .i64 0, .int .i64 0, .nils, .nils])]) (by kernel_rfl) trivial (by kernel_rfl) (by kernel_rfl) ?_
    refine seqQ_norm ?_
    refine Wp.blockN (i := 0) (by kernel_rfl) ?_
    obtain ⟨fl, hl_7, h⟩ := bsome h
    have hL := spec_FillOpen_l0_s _ _ hl_7 c hc
    refine Wp.loopN (by kernel_rfl) ?_
    rcases fl with ⟨⟩ | r
    · refine WpL.into (e := (.exit 0)) (mkS [(1, .sl (List.map I l1)), (2, .ra 1 0), (4, .ra 2 0)] [(1, .box [.int .i64 t0.fOp, .int .i64 t0.fN, .sl (List.map I t0.fType), .sl (List.map GTerm_S t0.fKids)]), (2, .box [.int .i64 0, .int .i64 0, .nils, .nils])]) hL ?_
      refine blockQ_hit ?_
      refine seqQ_norm ?_
      refine Wp.seqN (by kernel_rfl) ?_
      obtain ⟨⟨r_8_2_0, r_8_2_1⟩, hr_8_2, h⟩ := bsome h
      refine Wp.reg tiok mix hc (by kernel_rfl) (ah := none) (rs := [some (.no), some (.no), some (.call (.tup [.agg [.int .i64 r_8_2_0.fOp, .int .i64 r_8_2_0.fN, .osl (List.map I r_8_2_0.fType), .osl (List.map GTerm_O r_8_2_0.fKids)], .sl (List.map I r_8_2_1)]) [] 3), some (.no), some (.no), some (.no), some (.new 5), some (.no), some (.no)]) (kt := [4, 7]) (ko := [2, 3, 4, 5]) (T' := [(4, .ra 2 0), (7, .ra 5 0)]) (O' := [(2, .box [.int .i64 0, .int .i64 0, .nils, .nils]), (3, .arr (List.map I r_8_2_0.fType)), (4, .arr (List.map GTerm_O r_8_2_0.fKids)), (5, .box [.int .i64 r_8_2_0.fOp, .int .i64 r_8_2_0.fN, .rs 3, .rs 4])]) (by kernel_rfl) (And.intro (spec_l9Fill_s _ _ hr_8_2) (And.intro bod_58 (And.intro (Or.inl rfl : ([] : List Nat) = [] ∨ noSh (.tup [.agg [.int .i64 r_8_2_0.fOp, .int .i64 r_8_2_0.fN, .osl (List.map I r_8_2_0.fType), .osl (List.map GTerm_O r_8_2_0.fKids)], .sl (List.map I r_8_2_1)]) = true) trivial))) (by kernel_rfl) (by kernel_rfl) ?_
      refine seqQ_norm ?_
      refine Wp.seqN (by kernel_rfl) ?_
      refine Wp.reg tiok mix hc (by kernel_rfl) (ah := none) (rs := [some (.no), some (.no), some (.no)]) (kt := [4, 5]) (ko := [2, 3, 4]) (T' := [(4, .ra 2 0), (5, .bool true)]) (O' := [(2, .box [.int .i64 r_8_2_0.fOp, .int .i64 r_8_2_0.fN, .rs 3, .rs 4]), (3, .arr (List.map I r_8_2_0.fType)), (4, .arr (List.map GTerm_O r_8_2_0.fKids))]) (by kernel_rfl) trivial (by kernel_rfl) (by kernel_rfl) ?_
      refine seqQ_norm ?_
      refine Wp.retN (by kernel_rfl) ?_
      obtain rfl := Option.some.inj h
      exact RetQ.ret (fl := [true, true]) (by kernel_rfl)
    · refine WpL.mono hL ?_
      rintro _ _ ⟨rfl, hfin⟩
      refine blockQ_ret ?_
      refine seqQ_ret ?_
      obtain rfl := Option.some.inj h
      exact ⟨.inl rfl, hfin⟩
def impl_within (p : Int × Int × Int) : Option (Bool) :=
  match p with
  | (n0, low1, high2) =>
    (
      if (decide (n0 ≥ low1)) = true then
        some ((decide (n0 ≤ high2)))
      else
        some (false)
    ) >>= fun v_1 =>
    some v_1
def M_impl_within (p : Int × Int × Int) (r : Bool) : Prop :=
  match p with
  | (n0, low1, high2) => FnSound Try.prog 64 [.int .i64 n0, .int .i64 low1, .int .i64 high2] (.bool r) []
theorem impl_within_s : ∀ p r, impl_within p = some r → M_impl_within p r := by
  rintro ⟨n0, low1, high2⟩ r h
  unfold impl_within at h
  show FnSound Try.prog 64 [.int .i64 n0, .int .i64 low1, .int .i64 high2] (.bool r) []
  refine FnSound.body0 tiok (fn := Try.f64) (code := B64) (by kernel_rfl) (by kernel_rfl) (by kernel_rfl) (by kernel_rfl) (nt := 15) (by kernel_rfl) (by kernel_rfl) (T := [(0, .int .i64 n0), (1, .int .i64 low1), (2, .int .i64 high2)]) (O := []) (by kernel_rfl) (by kernel_rfl) (fun c hc => ?_)
  refine Wp.seqN (by kernel_rfl) ?_
  refine Wp.reg tiok mix hc (by kernel_rfl) (ah := none) (rs := [some (.no)]) (kt := [0, 1, 2]) (ko := []) (T' := [(0, .int .i64 n0), (1, .int .i64 low1), (2, .int .i64 high2)]) (O' := []) (by kernel_rfl) trivial (by kernel_rfl) (by kernel_rfl) ?_
  refine seqQ_norm ?_
  refine Wp.seqN (by kernel_rfl) ?_
  obtain ⟨v_1, hj_2, h⟩ := bsome h
  refine Wp.into (x := .normal) (mkS [(6, .bool v_1)] []) ?_ ?_
  · replace h := hj_2
    rcases itesome h with ⟨hb_1_0, h⟩ | ⟨hb_1_0, h⟩
    · refine Wp.reg tiok mix hc (by kernel_rfl) (ah := none) (rs := [some (.no), some (.no), some (.no), some (.no), some (.no), some (.no), some (.no), some (.cond true), some (.no)]) (kt := [6]) (ko := []) (T' := [(6, .bool (decide (n0 ≤ high2)))]) (O' := []) (by kernel_rfl) (And.intro hb_1_0 (And.intro hb_1_0 (And.intro hb_1_0 (And.intro hb_1_0 trivial)))) (by kernel_rfl) (by kernel_rfl) ?_
      obtain rfl := Option.some.inj h
      exact Into.mk
    · refine Wp.reg tiok mix hc (by kernel_rfl) (ah := none) (rs := [some (.no), some (.no), some (.no), some (.no), none, none, none, some (.cond false), some (.no)]) (kt := [6]) (ko := []) (T' := [(6, .bool false)]) (O' := []) (by kernel_rfl) (And.intro (neT hb_1_0 : (decide (n0 ≥ low1)) ≠ true) (And.intro (neT hb_1_0 : (decide (n0 ≥ low1)) ≠ true) (And.intro (neT hb_1_0 : (decide (n0 ≥ low1)) ≠ true) (And.intro hb_1_0 trivial)))) (by kernel_rfl) (by kernel_rfl) ?_
      obtain rfl := Option.some.inj h
      exact Into.mk
  · clear hj_2
    refine seqQ_norm ?_
    refine Wp.retN (by kernel_rfl) ?_
    obtain rfl := Option.some.inj h
    exact RetQ.ret (fl := [true]) (by kernel_rfl)
def impl_formOf (op0 : Int) : Option (GForm × Bool) :=
    (impl_within (op0, 0, 12)) >>= fun r_1_1 =>
    if r_1_1 = true then
      (idx [(GForm.mk (ByteArray.mk #[120]) 0 false false), (GForm.mk ByteArray.empty 0 false false), (GForm.mk (ByteArray.mk #[97, 100, 100]) 2 false false), (GForm.mk (ByteArray.mk #[105, 102]) 3 false false), (GForm.mk (ByteArray.mk #[112, 97, 105, 114]) 2 false false), (GForm.mk (ByteArray.mk #[115, 112, 108, 105, 116]) 2 true false), (GForm.mk (ByteArray.mk #[108, 101, 102, 116]) 1 false true), (GForm.mk (ByteArray.mk #[114, 105, 103, 104, 116]) 1 false true), (GForm.mk (ByteArray.mk #[99, 97, 115, 101]) 3 true false), (GForm.mk (ByteArray.mk #[102, 117, 110]) 1 true true), (GForm.mk (ByteArray.mk #[97, 112, 112]) 2 false false), (GForm.mk (ByteArray.mk #[98, 111, 120]) 1 true false), (GForm.mk (ByteArray.mk #[111, 112, 101, 110]) 2 true false)] op0) >>= fun e_3_15 =>
      some (e_3_15, true)
    else
      some ((GForm.mk ByteArray.empty 0 false false), false)
def M_impl_formOf (op0 : Int) (r : GForm × Bool) : Prop :=
  FnSound Try.prog 111 [.int .i64 op0] (.tup [.agg [.str r.1.fword, .int .i64 r.1.fkids, .bool r.1.fgrade, .bool r.1.ftyped], .bool r.2]) []
theorem impl_formOf_s : ∀ p r, impl_formOf p = some r → M_impl_formOf p r := by
  rintro op0 r h
  unfold impl_formOf at h
  show FnSound Try.prog 111 [.int .i64 op0] (.tup [.agg [.str r.1.fword, .int .i64 r.1.fkids, .bool r.1.fgrade, .bool r.1.ftyped], .bool r.2]) []
  refine FnSound.body0 tiok (fn := Try.f111) (code := B111) (by kernel_rfl) (by kernel_rfl) (by kernel_rfl) (by kernel_rfl) (nt := 25) (by kernel_rfl) (by kernel_rfl) (T := [(0, .int .i64 op0)]) (O := []) (by kernel_rfl) (by kernel_rfl) (fun c hc => ?_)
  refine Wp.seqN (by kernel_rfl) ?_
  refine Wp.reg tiok mix hc (by kernel_rfl) (ah := none) (rs := [some (.new 1), some (.no)]) (kt := [0, 2]) (ko := [1]) (T' := [(0, .int .i64 op0), (2, .ra 1 0)]) (O' := [(1, .box [.str ByteArray.empty, .int .i64 0, .bool false, .bool false])]) (by kernel_rfl) trivial (by kernel_rfl) (by kernel_rfl) ?_
  refine seqQ_norm ?_
  refine Wp.seqN (by kernel_rfl) ?_
  refine Wp.seqN (by kernel_rfl) ?_
  obtain ⟨r_1_1, hr_1_1, h⟩ := bsome h
  refine Wp.reg tiok mix hc (by kernel_rfl) (ah := none) (rs := [some (.no), some (.call (.bool r_1_1) [] 1), some (.no)]) (kt := [0, 2, 6]) (ko := [1]) (T' := [(0, .int .i64 op0), (2, .ra 1 0), (6, .bool (!r_1_1))]) (O' := [(1, .box [.str ByteArray.empty, .int .i64 0, .bool false, .bool false])]) (by kernel_rfl) (And.intro (impl_within_s _ _ hr_1_1) (And.intro bod_64 (And.intro (Or.inl rfl : ([] : List Nat) = [] ∨ noSh (.bool r_1_1) = true) trivial))) (by kernel_rfl) (by kernel_rfl) ?_
  refine seqQ_norm ?_
  rcases itesome h with ⟨hb_1, h⟩ | ⟨hb_1, h⟩
  · refine Wp.condF (b := (!r_1_1)) (by kernel_rfl) (by kernel_rfl) (nF hb_1) ?_
    refine Wp.skipN (by kernel_rfl) ?_
    refine seqQ_norm ?_
    refine Wp.seqN (by kernel_rfl) ?_
    obtain ⟨e_3_15, hi_3_15, h⟩ := bsome h
    refine Wp.reg tiok mix hc (by kernel_rfl) (ah := none) (rs := [some (.no), some (.no), some (.no), some (.no), some (.no), some (.no), some (.no), some (.no), some (.no), some (.no), some (.no), some (.no), some (.no), some (.mk 2 true), some (.no), some (.no), some (.el (.agg [.str e_3_15.fword, .int .i64 e_3_15.fkids, .bool e_3_15.fgrade, .bool e_3_15.ftyped])), some (.no), some (.no)]) (kt := [2, 3]) (ko := [1]) (T' := [(2, .ra 1 0), (3, .bool true)]) (O' := [(1, .box [.str e_3_15.fword, .int .i64 e_3_15.fkids, .bool e_3_15.fgrade, .bool e_3_15.ftyped])]) (by kernel_rfl) (And.intro (idx_own (enc := GForm_v) hi_3_15) (And.intro (idx_sl (enc := GForm_v) (x := .agg [.str e_3_15.fword, .int .i64 e_3_15.fkids, .bool e_3_15.fgrade, .bool e_3_15.ftyped]) hi_3_15 (eq_GForm_v e_3_15)).2 trivial)) (by kernel_rfl) (by kernel_rfl) ?_
    refine seqQ_norm ?_
    refine Wp.retN (by kernel_rfl) ?_
    obtain rfl := Option.some.inj h
    exact RetQ.ret (fl := [true, true]) (by kernel_rfl)
  · refine Wp.condT (b := (!r_1_1)) (by kernel_rfl) (by kernel_rfl) (nT hb_1) ?_
    refine Wp.seqN (by kernel_rfl) ?_
    refine Wp.reg tiok mix hc (by kernel_rfl) (ah := none) (rs := [some (.no), some (.no), some (.no)]) (kt := [2, 3]) (ko := [1]) (T' := [(2, .ra 1 0), (3, .bool false)]) (O' := [(1, .box [.str ByteArray.empty, .int .i64 0, .bool false, .bool false])]) (by kernel_rfl) trivial (by kernel_rfl) (by kernel_rfl) ?_
    refine seqQ_norm ?_
    refine Wp.retN (by kernel_rfl) ?_
    refine seqQ_ret ?_
    obtain rfl := Option.some.inj h
    exact RetQ.ret (fl := [true, true]) (by kernel_rfl)
def impl_writtenSize_c1 (g0 : Int) : Option (Bool) :=
    (impl_within (g0, (-1), 15)) >>= fun r_1_1 =>
    some r_1_1
def M_impl_writtenSize_c1 (g0 : Int) (r : Bool) : Prop :=
  FnSound Try.prog 152 [.int .i64 g0] (.bool r) []
theorem impl_writtenSize_c1_s : ∀ p r, impl_writtenSize_c1 p = some r → M_impl_writtenSize_c1 p r := by
  rintro g0 r h
  unfold impl_writtenSize_c1 at h
  show FnSound Try.prog 152 [.int .i64 g0] (.bool r) []
  refine FnSound.body0 tiok (fn := Try.f152) (code := B152) (by kernel_rfl) (by kernel_rfl) (by kernel_rfl) (by kernel_rfl) (nt := 5) (by kernel_rfl) (by kernel_rfl) (T := [(0, .int .i64 g0)]) (O := []) (by kernel_rfl) (by kernel_rfl) (fun c hc => ?_)
  refine Wp.seqN (by kernel_rfl) ?_
  refine Wp.reg tiok mix hc (by kernel_rfl) (ah := none) (rs := [some (.no)]) (kt := [0]) (ko := []) (T' := [(0, .int .i64 g0)]) (O' := []) (by kernel_rfl) trivial (by kernel_rfl) (by kernel_rfl) ?_
  refine seqQ_norm ?_
  refine Wp.seqN (by kernel_rfl) ?_
  obtain ⟨r_1_1, hr_1_1, h⟩ := bsome h
  refine Wp.reg tiok mix hc (by kernel_rfl) (ah := none) (rs := [some (.no), some (.call (.bool r_1_1) [] 1), some (.no)]) (kt := [2]) (ko := []) (T' := [(2, .bool r_1_1)]) (O' := []) (by kernel_rfl) (And.intro (impl_within_s _ _ hr_1_1) (And.intro bod_64 (And.intro (Or.inl rfl : ([] : List Nat) = [] ∨ noSh (.bool r_1_1) = true) trivial))) (by kernel_rfl) (by kernel_rfl) ?_
  refine seqQ_norm ?_
  refine Wp.retN (by kernel_rfl) ?_
  obtain rfl := Option.some.inj h
  exact RetQ.ret (fl := [true]) (by kernel_rfl)
def impl_shape (code0 : Int) : Option (Int × Int) :=
    (impl_within (code0, 0, 2)) >>= fun r_1_1 =>
    if r_1_1 = true then
      some (code0, (-1))
    else
      (impl_within (code0, 3, 18)) >>= fun r_3_1 =>
      if r_3_1 = true then
        some (3, (wr (code0 - 3)))
      else
        (impl_within (code0, 19, 34)) >>= fun r_5_1 =>
        if r_5_1 = true then
          some (4, (wr (code0 - 19)))
        else
          if (code0 == 35) = true then
            some (3, (-1))
          else
            if (code0 == 36) = true then
              some (4, (-1))
            else
              some (5, (-1))
def M_impl_shape (code0 : Int) (r : Int × Int) : Prop :=
  FnSound Try.prog 103 [.int .i64 code0] (.tup [.int .i64 r.1, .int .i64 r.2]) []
theorem impl_shape_s : ∀ p r, impl_shape p = some r → M_impl_shape p r := by
  rintro code0 r h
  unfold impl_shape at h
  show FnSound Try.prog 103 [.int .i64 code0] (.tup [.int .i64 r.1, .int .i64 r.2]) []
  refine FnSound.body0 tiok (fn := Try.f103) (code := B103) (by kernel_rfl) (by kernel_rfl) (by kernel_rfl) (by kernel_rfl) (nt := 24) (by kernel_rfl) (by kernel_rfl) (T := [(0, .int .i64 code0)]) (O := []) (by kernel_rfl) (by kernel_rfl) (fun c hc => ?_)
  refine Wp.seqN (by kernel_rfl) ?_
  refine Wp.reg tiok mix hc (by kernel_rfl) (ah := none) (rs := [some (.no), some (.no)]) (kt := [0]) (ko := []) (T' := [(0, .int .i64 code0)]) (O' := []) (by kernel_rfl) trivial (by kernel_rfl) (by kernel_rfl) ?_
  refine seqQ_norm ?_
  refine Wp.seqN (by kernel_rfl) ?_
  refine Wp.blockN (i := 0) (by kernel_rfl) ?_
  refine Wp.seqN (by kernel_rfl) ?_
  obtain ⟨r_1_1, hr_1_1, h⟩ := bsome h
  refine Wp.reg tiok mix hc (by kernel_rfl) (ah := none) (rs := [some (.no), some (.call (.bool r_1_1) [] 1), some (.no)]) (kt := [0, 4]) (ko := []) (T' := [(0, .int .i64 code0), (4, .bool r_1_1)]) (O' := []) (by kernel_rfl) (And.intro (impl_within_s _ _ hr_1_1) (And.intro bod_64 (And.intro (Or.inl rfl : ([] : List Nat) = [] ∨ noSh (.bool r_1_1) = true) trivial))) (by kernel_rfl) (by kernel_rfl) ?_
  refine seqQ_norm ?_
  rcases itesome h with ⟨hb_1, h⟩ | ⟨hb_1, h⟩
  · refine Wp.condT (b := r_1_1) (by kernel_rfl) (by kernel_rfl) hb_1 ?_
    refine Wp.seqN (by kernel_rfl) ?_
    refine Wp.reg tiok mix hc (by kernel_rfl) (ah := none) (rs := [some (.no), some (.no), some (.no)]) (kt := [2, 3]) (ko := []) (T' := [(2, .int .i64 code0), (3, .int .i64 (-1))]) (O' := []) (by kernel_rfl) trivial (by kernel_rfl) (by kernel_rfl) ?_
    refine seqQ_norm ?_
    refine Wp.retN (by kernel_rfl) ?_
    refine blockQ_ret ?_
    refine seqQ_ret ?_
    obtain rfl := Option.some.inj h
    exact RetQ.ret (fl := [true, true]) (by kernel_rfl)
  · refine Wp.condF (b := r_1_1) (by kernel_rfl) (by kernel_rfl) hb_1 ?_
    refine Wp.seqN (by kernel_rfl) ?_
    obtain ⟨r_3_1, hr_3_1, h⟩ := bsome h
    refine Wp.reg tiok mix hc (by kernel_rfl) (ah := none) (rs := [some (.no), some (.call (.bool r_3_1) [] 1), some (.no)]) (kt := [0, 8]) (ko := []) (T' := [(0, .int .i64 code0), (8, .bool r_3_1)]) (O' := []) (by kernel_rfl) (And.intro (impl_within_s _ _ hr_3_1) (And.intro bod_64 (And.intro (Or.inl rfl : ([] : List Nat) = [] ∨ noSh (.bool r_3_1) = true) trivial))) (by kernel_rfl) (by kernel_rfl) ?_
    refine seqQ_norm ?_
    rcases itesome h with ⟨hb_2, h⟩ | ⟨hb_2, h⟩
    · refine Wp.condT (b := r_3_1) (by kernel_rfl) (by kernel_rfl) hb_2 ?_
      refine Wp.seqN (by kernel_rfl) ?_
      refine Wp.reg tiok mix hc (by kernel_rfl) (ah := none) (rs := [some (.no), some (.no), some (.no), some (.no)]) (kt := [2, 3]) (ko := []) (T' := [(2, .int .i64 3), (3, .int .i64 (wr (code0 - 3)))]) (O' := []) (by kernel_rfl) trivial (by kernel_rfl) (by kernel_rfl) ?_
      refine seqQ_norm ?_
      refine Wp.retN (by kernel_rfl) ?_
      refine blockQ_ret ?_
      refine seqQ_ret ?_
      obtain rfl := Option.some.inj h
      exact RetQ.ret (fl := [true, true]) (by kernel_rfl)
    · refine Wp.condF (b := r_3_1) (by kernel_rfl) (by kernel_rfl) hb_2 ?_
      refine Wp.seqN (by kernel_rfl) ?_
      obtain ⟨r_5_1, hr_5_1, h⟩ := bsome h
      refine Wp.reg tiok mix hc (by kernel_rfl) (ah := none) (rs := [some (.no), some (.call (.bool r_5_1) [] 1), some (.no)]) (kt := [0, 13]) (ko := []) (T' := [(0, .int .i64 code0), (13, .bool r_5_1)]) (O' := []) (by kernel_rfl) (And.intro (impl_within_s _ _ hr_5_1) (And.intro bod_64 (And.intro (Or.inl rfl : ([] : List Nat) = [] ∨ noSh (.bool r_5_1) = true) trivial))) (by kernel_rfl) (by kernel_rfl) ?_
      refine seqQ_norm ?_
      rcases itesome h with ⟨hb_3, h⟩ | ⟨hb_3, h⟩
      · refine Wp.condT (b := r_5_1) (by kernel_rfl) (by kernel_rfl) hb_3 ?_
        refine Wp.seqN (by kernel_rfl) ?_
        refine Wp.reg tiok mix hc (by kernel_rfl) (ah := none) (rs := [some (.no), some (.no), some (.no), some (.no)]) (kt := [2, 3]) (ko := []) (T' := [(2, .int .i64 4), (3, .int .i64 (wr (code0 - 19)))]) (O' := []) (by kernel_rfl) trivial (by kernel_rfl) (by kernel_rfl) ?_
        refine seqQ_norm ?_
        refine Wp.retN (by kernel_rfl) ?_
        refine blockQ_ret ?_
        refine seqQ_ret ?_
        obtain rfl := Option.some.inj h
        exact RetQ.ret (fl := [true, true]) (by kernel_rfl)
      · refine Wp.condF (b := r_5_1) (by kernel_rfl) (by kernel_rfl) hb_3 ?_
        refine Wp.seqN (by kernel_rfl) ?_
        refine Wp.reg tiok mix hc (by kernel_rfl) (ah := none) (rs := [some (.no), some (.no), some (.no)]) (kt := [0, 18]) (ko := []) (T' := [(0, .int .i64 code0), (18, .bool (code0 == 35))]) (O' := []) (by kernel_rfl) trivial (by kernel_rfl) (by kernel_rfl) ?_
        refine seqQ_norm ?_
        rcases itesome h with ⟨hb_4, h⟩ | ⟨hb_4, h⟩
        · refine Wp.condT (b := (code0 == 35)) (by kernel_rfl) (by kernel_rfl) hb_4 ?_
          refine Wp.seqN (by kernel_rfl) ?_
          refine Wp.reg tiok mix hc (by kernel_rfl) (ah := none) (rs := [some (.no), some (.no)]) (kt := [2, 3]) (ko := []) (T' := [(2, .int .i64 3), (3, .int .i64 (-1))]) (O' := []) (by kernel_rfl) trivial (by kernel_rfl) (by kernel_rfl) ?_
          refine seqQ_norm ?_
          refine Wp.retN (by kernel_rfl) ?_
          refine blockQ_ret ?_
          refine seqQ_ret ?_
          obtain rfl := Option.some.inj h
          exact RetQ.ret (fl := [true, true]) (by kernel_rfl)
        · refine Wp.condF (b := (code0 == 35)) (by kernel_rfl) (by kernel_rfl) hb_4 ?_
          refine Wp.seqN (by kernel_rfl) ?_
          refine Wp.reg tiok mix hc (by kernel_rfl) (ah := none) (rs := [some (.no), some (.no), some (.no)]) (kt := [21]) (ko := []) (T' := [(21, .bool (code0 == 36))]) (O' := []) (by kernel_rfl) trivial (by kernel_rfl) (by kernel_rfl) ?_
          refine seqQ_norm ?_
          rcases itesome h with ⟨hb_5, h⟩ | ⟨hb_5, h⟩
          · refine Wp.condT (b := (code0 == 36)) (by kernel_rfl) (by kernel_rfl) hb_5 ?_
            refine Wp.seqN (by kernel_rfl) ?_
            refine Wp.reg tiok mix hc (by kernel_rfl) (ah := none) (rs := [some (.no), some (.no)]) (kt := [2, 3]) (ko := []) (T' := [(2, .int .i64 4), (3, .int .i64 (-1))]) (O' := []) (by kernel_rfl) trivial (by kernel_rfl) (by kernel_rfl) ?_
            refine seqQ_norm ?_
            refine Wp.retN (by kernel_rfl) ?_
            refine blockQ_ret ?_
            refine seqQ_ret ?_
            obtain rfl := Option.some.inj h
            exact RetQ.ret (fl := [true, true]) (by kernel_rfl)
          · refine Wp.condF (b := (code0 == 36)) (by kernel_rfl) (by kernel_rfl) hb_5 ?_
            refine Wp.skipN (by kernel_rfl) ?_
            refine blockQ_norm ?_
            refine seqQ_norm ?_
            refine Wp.seqN (by kernel_rfl) ?_
            refine Wp.reg tiok mix hc (by kernel_rfl) (ah := none) (rs := [some (.no), some (.no)]) (kt := [2, 3]) (ko := []) (T' := [(2, .int .i64 5), (3, .int .i64 (-1))]) (O' := []) (by kernel_rfl) trivial (by kernel_rfl) (by kernel_rfl) ?_
            refine seqQ_norm ?_
            refine Wp.retN (by kernel_rfl) ?_
            obtain rfl := Option.some.inj h
            exact RetQ.ret (fl := [true, true]) (by kernel_rfl)
def impl_typeEnd (p : (List Int) × Int) : Option (Int) :=
  match p with
  | (ty0, at1) =>
    (
      if (decide (at1 < 0)) = true then
        some (true)
      else
        some ((decide (at1 ≥ (ty0.length : Int))))
    ) >>= fun v_1 =>
    if v_1 = true then
      some (-1)
    else
      (idx ty0 at1) >>= fun e_3_2 =>
      (impl_shape e_3_2) >>= fun (r_3_4_0, r_3_4_1) =>
      if (r_3_4_0 == 0) = true then
        some (wr (at1 + 1))
      else
        if (r_3_4_0 == 4) = true then
          (impl_typeEnd (ty0, (wr (at1 + 1)))) >>= fun r_8_3 =>
          some r_8_3
        else
          if (r_3_4_0 == 5) = true then
            some (-1)
          else
            (impl_typeEnd (ty0, (wr (at1 + 1)))) >>= fun r_11_4 =>
            (impl_typeEnd (ty0, r_11_4)) >>= fun r_11_5 =>
            some r_11_5
  partial_fixpoint
def M_impl_typeEnd (p : (List Int) × Int) (r : Int) : Prop :=
  match p with
  | (ty0, at1) => FnSound Try.prog 151 [.sl (List.map I ty0), .int .i64 at1] (.int .i64 r) []
theorem impl_typeEnd_s : ∀ p r, impl_typeEnd p = some r → M_impl_typeEnd p r := by
  refine impl_typeEnd.partial_correctness M_impl_typeEnd ?_
  rintro impl_typeEnd_f impl_typeEnd_ih ⟨ty0, at1⟩ r h
  show FnSound Try.prog 151 [.sl (List.map I ty0), .int .i64 at1] (.int .i64 r) []
  refine FnSound.body0 tiok (fn := Try.f151) (code := B151) (by kernel_rfl) (by kernel_rfl) (by kernel_rfl) (by kernel_rfl) (nt := 42) (by kernel_rfl) (by kernel_rfl) (T := [(0, .sl (List.map I ty0)), (1, .int .i64 at1)]) (O := []) (by kernel_rfl) (by kernel_rfl) (fun c hc => ?_)
  refine Wp.seqN (by kernel_rfl) ?_
  refine Wp.reg tiok mix hc (by kernel_rfl) (ah := none) (rs := [some (.no)]) (kt := [0, 1]) (ko := []) (T' := [(0, .sl (List.map I ty0)), (1, .int .i64 at1)]) (O' := []) (by kernel_rfl) trivial (by kernel_rfl) (by kernel_rfl) ?_
  refine seqQ_norm ?_
  refine Wp.seqN (by kernel_rfl) ?_
  refine Wp.seqN (by kernel_rfl) ?_
  obtain ⟨v_1, hj_2, h⟩ := bsome h
  refine Wp.into (x := .normal) (mkS [(0, .sl (List.map I ty0)), (1, .int .i64 at1), (14, .bool v_1)] []) ?_ ?_
  · replace h := hj_2
    rcases itesome h with ⟨hb_1_0, h⟩ | ⟨hb_1_0, h⟩
    · refine Wp.reg tiok mix hc (by kernel_rfl) (ah := none) (rs := [some (.no), some (.no), some (.no), none, none, none, none, some (.cond true)]) (kt := [0, 1, 14]) (ko := []) (T' := [(0, .sl (List.map I ty0)), (1, .int .i64 at1), (14, .bool true)]) (O' := []) (by kernel_rfl) (And.intro (neF hb_1_0 : (decide (at1 < 0)) ≠ false) (And.intro (neF hb_1_0 : (decide (at1 < 0)) ≠ false) (And.intro (neF hb_1_0 : (decide (at1 < 0)) ≠ false) (And.intro (neF hb_1_0 : (decide (at1 < 0)) ≠ false) (And.intro hb_1_0 trivial))))) (by kernel_rfl) (by kernel_rfl) ?_
      obtain rfl := Option.some.inj h
      exact Into.mk
    · refine Wp.reg tiok mix hc (by kernel_rfl) (ah := none) (rs := [some (.no), some (.no), some (.no), some (.no), some (.no), some (.eqv (.no) ⟨[(12, .int .i64 (ty0.length : Int))], [], []⟩), some (.no), some (.cond false)]) (kt := [0, 1, 14]) (ko := []) (T' := [(0, .sl (List.map I ty0)), (1, .int .i64 at1), (14, .bool (decide (at1 ≥ (ty0.length : Int))))]) (O' := []) (by kernel_rfl) (And.intro hb_1_0 (And.intro hb_1_0 (And.intro hb_1_0 (And.intro (lenT (d := 12) I ty0) (And.intro hb_1_0 (And.intro hb_1_0 trivial)))))) (by kernel_rfl) (by kernel_rfl) ?_
      obtain rfl := Option.some.inj h
      exact Into.mk
  · clear hj_2
    refine seqQ_norm ?_
    rcases itesome h with ⟨hb_3, h⟩ | ⟨hb_3, h⟩
    · refine Wp.condT (b := v_1) (by kernel_rfl) (by kernel_rfl) hb_3 ?_
      refine Wp.seqN (by kernel_rfl) ?_
      refine Wp.reg tiok mix hc (by kernel_rfl) (ah := none) (rs := [some (.no)]) (kt := [4]) (ko := []) (T' := [(4, .int .i64 (-1))]) (O' := []) (by kernel_rfl) trivial (by kernel_rfl) (by kernel_rfl) ?_
      refine seqQ_norm ?_
      refine Wp.retN (by kernel_rfl) ?_
      refine seqQ_ret ?_
      obtain rfl := Option.some.inj h
      exact RetQ.ret (fl := [true]) (by kernel_rfl)
    · refine Wp.condF (b := v_1) (by kernel_rfl) (by kernel_rfl) hb_3 ?_
      refine Wp.skipN (by kernel_rfl) ?_
      refine seqQ_norm ?_
      refine Wp.seqN (by kernel_rfl) ?_
      obtain ⟨e_3_2, hi_3_2, h⟩ := bsome h
      obtain ⟨⟨r_3_4_0, r_3_4_1⟩, hr_3_4, h⟩ := bsome h
      refine Wp.reg tiok mix hc (by kernel_rfl) (ah := none) (rs := [some (.no), some (.no), some (.el (.int .i64 e_3_2)), some (.no), some (.call (.tup [.int .i64 r_3_4_0, .int .i64 r_3_4_1]) [] 1), some (.no), some (.no), some (.no), some (.no), some (.no)]) (kt := [0, 1, 5]) (ko := []) (T' := [(0, .sl (List.map I ty0)), (1, .int .i64 at1), (5, .int .i64 r_3_4_0)]) (O' := []) (by kernel_rfl) (And.intro (idx_sl (enc := I) (x := .int .i64 e_3_2) hi_3_2 (eq_I e_3_2)) (And.intro (impl_shape_s _ _ hr_3_4) (And.intro bod_103 (And.intro (Or.inl rfl : ([] : List Nat) = [] ∨ noSh (.tup [.int .i64 r_3_4_0, .int .i64 r_3_4_1]) = true) trivial)))) (by kernel_rfl) (by kernel_rfl) ?_
      refine seqQ_norm ?_
      refine Wp.seqN (by kernel_rfl) ?_
      refine Wp.seqN (by kernel_rfl) ?_
      refine Wp.reg tiok mix hc (by kernel_rfl) (ah := none) (rs := [some (.no)]) (kt := [0, 1, 23]) (ko := []) (T' := [(0, .sl (List.map I ty0)), (1, .int .i64 at1), (23, .int .i64 r_3_4_0)]) (O' := []) (by kernel_rfl) trivial (by kernel_rfl) (by kernel_rfl) ?_
      refine seqQ_norm ?_
      refine Wp.blockN (i := 0) (by kernel_rfl) ?_
      refine Wp.seqN (by kernel_rfl) ?_
      refine Wp.reg tiok mix hc (by kernel_rfl) (ah := none) (rs := [some (.no), some (.no)]) (kt := [0, 1, 23, 24]) (ko := []) (T' := [(0, .sl (List.map I ty0)), (1, .int .i64 at1), (23, .int .i64 r_3_4_0), (24, .bool (r_3_4_0 == 0))]) (O' := []) (by kernel_rfl) trivial (by kernel_rfl) (by kernel_rfl) ?_
      refine seqQ_norm ?_
      rcases itesome h with ⟨hb_4, h⟩ | ⟨hb_4, h⟩
      · refine Wp.condT (b := (r_3_4_0 == 0)) (by kernel_rfl) (by kernel_rfl) hb_4 ?_
        refine Wp.seqN (by kernel_rfl) ?_
        refine Wp.reg tiok mix hc (by kernel_rfl) (ah := none) (rs := [some (.no), some (.no), some (.no)]) (kt := [4]) (ko := []) (T' := [(4, .int .i64 (wr (at1 + 1)))]) (O' := []) (by kernel_rfl) trivial (by kernel_rfl) (by kernel_rfl) ?_
        refine seqQ_norm ?_
        refine Wp.retN (by kernel_rfl) ?_
        refine blockQ_ret ?_
        refine seqQ_ret ?_
        obtain rfl := Option.some.inj h
        exact RetQ.ret (fl := [true]) (by kernel_rfl)
      · refine Wp.condF (b := (r_3_4_0 == 0)) (by kernel_rfl) (by kernel_rfl) hb_4 ?_
        refine Wp.seqN (by kernel_rfl) ?_
        refine Wp.reg tiok mix hc (by kernel_rfl) (ah := none) (rs := [some (.no), some (.no)]) (kt := [0, 1, 23, 28]) (ko := []) (T' := [(0, .sl (List.map I ty0)), (1, .int .i64 at1), (23, .int .i64 r_3_4_0), (28, .bool (r_3_4_0 == 4))]) (O' := []) (by kernel_rfl) trivial (by kernel_rfl) (by kernel_rfl) ?_
        refine seqQ_norm ?_
        rcases itesome h with ⟨hb_5, h⟩ | ⟨hb_5, h⟩
        · refine Wp.condT (b := (r_3_4_0 == 4)) (by kernel_rfl) (by kernel_rfl) hb_5 ?_
          refine Wp.seqN (by kernel_rfl) ?_
          obtain ⟨r_8_3, hr_8_3, h⟩ := bsome h
          refine Wp.reg tiok mix hc (by kernel_rfl) (ah := none) (rs := [some (.no), some (.no), some (.no), some (.call (.int .i64 r_8_3) [] 1), some (.no)]) (kt := [4]) (ko := []) (T' := [(4, .int .i64 r_8_3)]) (O' := []) (by kernel_rfl) (And.intro (impl_typeEnd_ih _ _ hr_8_3) (And.intro bod_151 (And.intro (Or.inl rfl : ([] : List Nat) = [] ∨ noSh (.int .i64 r_8_3) = true) trivial))) (by kernel_rfl) (by kernel_rfl) ?_
          refine seqQ_norm ?_
          refine Wp.retN (by kernel_rfl) ?_
          refine blockQ_ret ?_
          refine seqQ_ret ?_
          obtain rfl := Option.some.inj h
          exact RetQ.ret (fl := [true]) (by kernel_rfl)
        · refine Wp.condF (b := (r_3_4_0 == 4)) (by kernel_rfl) (by kernel_rfl) hb_5 ?_
          refine Wp.seqN (by kernel_rfl) ?_
          refine Wp.reg tiok mix hc (by kernel_rfl) (ah := none) (rs := [some (.no), some (.no)]) (kt := [0, 1, 34]) (ko := []) (T' := [(0, .sl (List.map I ty0)), (1, .int .i64 at1), (34, .bool (r_3_4_0 == 5))]) (O' := []) (by kernel_rfl) trivial (by kernel_rfl) (by kernel_rfl) ?_
          refine seqQ_norm ?_
          rcases itesome h with ⟨hb_6, h⟩ | ⟨hb_6, h⟩
          · refine Wp.condT (b := (r_3_4_0 == 5)) (by kernel_rfl) (by kernel_rfl) hb_6 ?_
            refine Wp.seqN (by kernel_rfl) ?_
            refine Wp.reg tiok mix hc (by kernel_rfl) (ah := none) (rs := [some (.no)]) (kt := [4]) (ko := []) (T' := [(4, .int .i64 (-1))]) (O' := []) (by kernel_rfl) trivial (by kernel_rfl) (by kernel_rfl) ?_
            refine seqQ_norm ?_
            refine Wp.retN (by kernel_rfl) ?_
            refine blockQ_ret ?_
            refine seqQ_ret ?_
            obtain rfl := Option.some.inj h
            exact RetQ.ret (fl := [true]) (by kernel_rfl)
          · refine Wp.condF (b := (r_3_4_0 == 5)) (by kernel_rfl) (by kernel_rfl) hb_6 ?_
            refine Wp.skipN (by kernel_rfl) ?_
            refine blockQ_norm ?_
            refine seqQ_norm ?_
            refine Wp.seqN (by kernel_rfl) ?_
            obtain ⟨r_11_4, hr_11_4, h⟩ := bsome h
            obtain ⟨r_11_5, hr_11_5, h⟩ := bsome h
            refine Wp.reg tiok mix hc (by kernel_rfl) (ah := none) (rs := [some (.no), some (.no), some (.no), some (.no), some (.call (.int .i64 r_11_4) [] 1), some (.call (.int .i64 r_11_5) [] 1), some (.no)]) (kt := [4]) (ko := []) (T' := [(4, .int .i64 r_11_5)]) (O' := []) (by kernel_rfl) (And.intro (impl_typeEnd_ih _ _ hr_11_4) (And.intro bod_151 (And.intro (Or.inl rfl : ([] : List Nat) = [] ∨ noSh (.int .i64 r_11_4) = true) (And.intro (impl_typeEnd_ih _ _ hr_11_5) (And.intro bod_151 (And.intro (Or.inl rfl : ([] : List Nat) = [] ∨ noSh (.int .i64 r_11_5) = true) trivial)))))) (by kernel_rfl) (by kernel_rfl) ?_
            refine seqQ_norm ?_
            refine Wp.retN (by kernel_rfl) ?_
            obtain rfl := Option.some.inj h
            exact RetQ.ret (fl := [true]) (by kernel_rfl)
def impl_isWrittenType (ty0 : (List Int)) : Option (Bool) :=
    (
      (impl_within ((ty0.length : Int), 1, 40)) >>= fun r_1_2 =>
      if r_1_2 = true then
        (impl_typeEnd (ty0, 0)) >>= fun r_1_5 =>
        some ((r_1_5 == (ty0.length : Int)))
      else
        some (false)
    ) >>= fun v_1 =>
    some v_1
def M_impl_isWrittenType (ty0 : (List Int)) (r : Bool) : Prop :=
  FnSound Try.prog 150 [.sl (List.map I ty0)] (.bool r) []
theorem impl_isWrittenType_s : ∀ p r, impl_isWrittenType p = some r → M_impl_isWrittenType p r := by
  rintro ty0 r h
  unfold impl_isWrittenType at h
  show FnSound Try.prog 150 [.sl (List.map I ty0)] (.bool r) []
  refine FnSound.body0 tiok (fn := Try.f150) (code := B150) (by kernel_rfl) (by kernel_rfl) (by kernel_rfl) (by kernel_rfl) (nt := 13) (by kernel_rfl) (by kernel_rfl) (T := [(0, .sl (List.map I ty0))]) (O := []) (by kernel_rfl) (by kernel_rfl) (fun c hc => ?_)
  refine Wp.seqN (by kernel_rfl) ?_
  refine Wp.reg tiok mix hc (by kernel_rfl) (ah := none) (rs := [some (.no)]) (kt := [0]) (ko := []) (T' := [(0, .sl (List.map I ty0))]) (O' := []) (by kernel_rfl) trivial (by kernel_rfl) (by kernel_rfl) ?_
  refine seqQ_norm ?_
  refine Wp.seqN (by kernel_rfl) ?_
  obtain ⟨v_1, hj_2, h⟩ := bsome h
  refine Wp.into (x := .normal) (mkS [(2, .bool v_1)] []) ?_ ?_
  · replace h := hj_2
    obtain ⟨r_1_2, hr_1_2, h⟩ := bsome h
    rcases itesome h with ⟨hb_1_0, h⟩ | ⟨hb_1_0, h⟩
    · obtain ⟨r_1_5, hr_1_5, h⟩ := bsome h
      refine Wp.reg tiok mix hc (by kernel_rfl) (ah := none) (rs := [some (.no), some (.eqv (.no) ⟨[(4, .int .i64 (ty0.length : Int))], [], []⟩), some (.call (.bool r_1_2) [] 1), some (.no), some (.no), some (.call (.int .i64 r_1_5) [] 1), some (.no), some (.eqv (.no) ⟨[(10, .int .i64 (ty0.length : Int))], [], []⟩), some (.no), some (.cond true), some (.no)]) (kt := [2]) (ko := []) (T' := [(2, .bool (r_1_5 == (ty0.length : Int)))]) (O' := []) (by kernel_rfl) (And.intro (lenT (d := 4) I ty0) (And.intro (impl_within_s _ _ hr_1_2) (And.intro bod_64 (And.intro (Or.inl rfl : ([] : List Nat) = [] ∨ noSh (.bool r_1_2) = true) (And.intro hb_1_0 (And.intro hb_1_0 (And.intro (impl_typeEnd_s _ _ hr_1_5) (And.intro bod_151 (And.intro (Or.inl rfl : ([] : List Nat) = [] ∨ noSh (.int .i64 r_1_5) = true) (And.intro hb_1_0 (And.intro hb_1_0 (And.intro (lenT (d := 10) I ty0) (And.intro hb_1_0 (And.intro hb_1_0 trivial)))))))))))))) (by kernel_rfl) (by kernel_rfl) ?_
      obtain rfl := Option.some.inj h
      exact Into.mk
    · refine Wp.reg tiok mix hc (by kernel_rfl) (ah := none) (rs := [some (.no), some (.eqv (.no) ⟨[(4, .int .i64 (ty0.length : Int))], [], []⟩), some (.call (.bool r_1_2) [] 1), some (.no), none, none, none, none, none, some (.cond false), some (.no)]) (kt := [2]) (ko := []) (T' := [(2, .bool false)]) (O' := []) (by kernel_rfl) (And.intro (lenT (d := 4) I ty0) (And.intro (impl_within_s _ _ hr_1_2) (And.intro bod_64 (And.intro (Or.inl rfl : ([] : List Nat) = [] ∨ noSh (.bool r_1_2) = true) (And.intro (neT hb_1_0 : r_1_2 ≠ true) (And.intro (neT hb_1_0 : r_1_2 ≠ true) (And.intro (neT hb_1_0 : r_1_2 ≠ true) (And.intro (neT hb_1_0 : r_1_2 ≠ true) (And.intro (neT hb_1_0 : r_1_2 ≠ true) (And.intro hb_1_0 trivial)))))))))) (by kernel_rfl) (by kernel_rfl) ?_
      obtain rfl := Option.some.inj h
      exact Into.mk
  · clear hj_2
    refine seqQ_norm ?_
    refine Wp.retN (by kernel_rfl) ?_
    obtain rfl := Option.some.inj h
    exact RetQ.ret (fl := [true]) (by kernel_rfl)
def impl_adds (p : Int × Int) : Option (Int) :=
  match p with
  | (op0, kid1) =>
    (
      if (op0 == 5) = true then
        some ((kid1 == 1))
      else
        some (false)
    ) >>= fun v_1 =>
    if v_1 = true then
      some 2
    else
      (
        if (op0 == 8) = true then
          some ((decide (kid1 > 0)))
        else
          some (false)
      ) >>= fun v_4 =>
      (
        if v_4 = true then
          some (v_4)
        else
          (
            if (op0 == 9) = true then
              some ((op0 == 9))
            else
              (
                if (op0 == 12) = true then
                  some ((kid1 == 1))
                else
                  some (false)
              ) >>= fun v_8 =>
              some (v_8)
          ) >>= fun j_10 =>
          some (j_10)
      ) >>= fun j_12 =>
      if j_12 = true then
        some 1
      else
        some 0
def M_impl_adds (p : Int × Int) (r : Int) : Prop :=
  match p with
  | (op0, kid1) => FnSound Try.prog 165 [.int .i64 op0, .int .i64 kid1] (.int .i64 r) []
theorem impl_adds_s : ∀ p r, impl_adds p = some r → M_impl_adds p r := by
  rintro ⟨op0, kid1⟩ r h
  unfold impl_adds at h
  show FnSound Try.prog 165 [.int .i64 op0, .int .i64 kid1] (.int .i64 r) []
  refine FnSound.body0 tiok (fn := Try.f165) (code := B165) (by kernel_rfl) (by kernel_rfl) (by kernel_rfl) (by kernel_rfl) (nt := 27) (by kernel_rfl) (by kernel_rfl) (T := [(0, .int .i64 op0), (1, .int .i64 kid1)]) (O := []) (by kernel_rfl) (by kernel_rfl) (fun c hc => ?_)
  refine Wp.seqN (by kernel_rfl) ?_
  refine Wp.reg tiok mix hc (by kernel_rfl) (ah := none) (rs := [some (.no)]) (kt := [0, 1]) (ko := []) (T' := [(0, .int .i64 op0), (1, .int .i64 kid1)]) (O' := []) (by kernel_rfl) trivial (by kernel_rfl) (by kernel_rfl) ?_
  refine seqQ_norm ?_
  refine Wp.seqN (by kernel_rfl) ?_
  refine Wp.blockN (i := 0) (by kernel_rfl) ?_
  refine Wp.seqN (by kernel_rfl) ?_
  obtain ⟨v_1, hj_2, h⟩ := bsome h
  refine Wp.into (x := .normal) (mkS [(0, .int .i64 op0), (1, .int .i64 kid1), (5, .bool v_1)] []) ?_ ?_
  · replace h := hj_2
    rcases itesome h with ⟨hb_1_0, h⟩ | ⟨hb_1_0, h⟩
    · refine Wp.reg tiok mix hc (by kernel_rfl) (ah := none) (rs := [some (.no), some (.no), some (.no), some (.no), some (.no), some (.cond true), some (.no)]) (kt := [0, 1, 5]) (ko := []) (T' := [(0, .int .i64 op0), (1, .int .i64 kid1), (5, .bool (kid1 == 1))]) (O' := []) (by kernel_rfl) (And.intro hb_1_0 (And.intro hb_1_0 (And.intro hb_1_0 trivial))) (by kernel_rfl) (by kernel_rfl) ?_
      obtain rfl := Option.some.inj h
      exact Into.mk
    · refine Wp.reg tiok mix hc (by kernel_rfl) (ah := none) (rs := [some (.no), some (.no), some (.no), none, none, some (.cond false), some (.no)]) (kt := [0, 1, 5]) (ko := []) (T' := [(0, .int .i64 op0), (1, .int .i64 kid1), (5, .bool false)]) (O' := []) (by kernel_rfl) (And.intro (neT hb_1_0 : (op0 == 5) ≠ true) (And.intro (neT hb_1_0 : (op0 == 5) ≠ true) (And.intro hb_1_0 trivial))) (by kernel_rfl) (by kernel_rfl) ?_
      obtain rfl := Option.some.inj h
      exact Into.mk
  · clear hj_2
    refine seqQ_norm ?_
    rcases itesome h with ⟨hb_3, h⟩ | ⟨hb_3, h⟩
    · refine Wp.condT (b := v_1) (by kernel_rfl) (by kernel_rfl) hb_3 ?_
      refine Wp.seqN (by kernel_rfl) ?_
      refine Wp.reg tiok mix hc (by kernel_rfl) (ah := none) (rs := [some (.no)]) (kt := [4]) (ko := []) (T' := [(4, .int .i64 2)]) (O' := []) (by kernel_rfl) trivial (by kernel_rfl) (by kernel_rfl) ?_
      refine seqQ_norm ?_
      refine Wp.retN (by kernel_rfl) ?_
      refine blockQ_ret ?_
      refine seqQ_ret ?_
      obtain rfl := Option.some.inj h
      exact RetQ.ret (fl := [true]) (by kernel_rfl)
    · refine Wp.condF (b := v_1) (by kernel_rfl) (by kernel_rfl) hb_3 ?_
      refine Wp.seqN (by kernel_rfl) ?_
      refine Wp.seqN (by kernel_rfl) ?_
      obtain ⟨v_4, hj_5, h⟩ := bsome h
      refine Wp.into (x := .normal) (mkS [(0, .int .i64 op0), (1, .int .i64 kid1), (12, .bool v_4)] []) ?_ ?_
      · replace h := hj_5
        rcases itesome h with ⟨hb_3_0, h⟩ | ⟨hb_3_0, h⟩
        · refine Wp.reg tiok mix hc (by kernel_rfl) (ah := none) (rs := [some (.no), some (.no), some (.no), some (.no), some (.no), some (.cond true), some (.no)]) (kt := [0, 1, 12]) (ko := []) (T' := [(0, .int .i64 op0), (1, .int .i64 kid1), (12, .bool (decide (kid1 > 0)))]) (O' := []) (by kernel_rfl) (And.intro hb_3_0 (And.intro hb_3_0 (And.intro hb_3_0 trivial))) (by kernel_rfl) (by kernel_rfl) ?_
          obtain rfl := Option.some.inj h
          exact Into.mk
        · refine Wp.reg tiok mix hc (by kernel_rfl) (ah := none) (rs := [some (.no), some (.no), some (.no), none, none, some (.cond false), some (.no)]) (kt := [0, 1, 12]) (ko := []) (T' := [(0, .int .i64 op0), (1, .int .i64 kid1), (12, .bool false)]) (O' := []) (by kernel_rfl) (And.intro (neT hb_3_0 : (op0 == 8) ≠ true) (And.intro (neT hb_3_0 : (op0 == 8) ≠ true) (And.intro hb_3_0 trivial))) (by kernel_rfl) (by kernel_rfl) ?_
          obtain rfl := Option.some.inj h
          exact Into.mk
      · clear hj_5
        refine seqQ_norm ?_
        obtain ⟨j_12, hj_13, h⟩ := bsome h
        refine Wp.into (x := .normal) (mkS [(12, .bool j_12)] []) ?_ ?_
        · replace h := hj_13
          rcases itesome h with ⟨hb_6, h⟩ | ⟨hb_6, h⟩
          · refine Wp.condT (b := v_4) (by kernel_rfl) (by kernel_rfl) hb_6 ?_
            refine Wp.skipN (by kernel_rfl) ?_
            obtain rfl := Option.some.inj h
            exact Into.view (fun a w hv => SRx.renL [] hv (by kernel_rfl) (by kernel_rfl) (by kernel_rfl))
          · refine Wp.condF (b := v_4) (by kernel_rfl) (by kernel_rfl) hb_6 ?_
            refine Wp.seqN (by kernel_rfl) ?_
            refine Wp.reg tiok mix hc (by kernel_rfl) (ah := none) (rs := [some (.no), some (.no), some (.no)]) (kt := [0, 1, 12]) (ko := []) (T' := [(0, .int .i64 op0), (1, .int .i64 kid1), (12, .bool (op0 == 9))]) (O' := []) (by kernel_rfl) trivial (by kernel_rfl) (by kernel_rfl) ?_
            refine seqQ_norm ?_
            obtain ⟨j_10, hj_11, h⟩ := bsome h
            refine Wp.into (x := .normal) (mkS [(12, .bool j_10)] []) ?_ ?_
            · replace h := hj_11
              rcases itesome h with ⟨hb_7, h⟩ | ⟨hb_7, h⟩
              · refine Wp.condT (b := (op0 == 9)) (by kernel_rfl) (by kernel_rfl) hb_7 ?_
                refine Wp.skipN (by kernel_rfl) ?_
                obtain rfl := Option.some.inj h
                exact Into.view (fun a w hv => SRx.renL [] hv (by kernel_rfl) (by kernel_rfl) (by kernel_rfl))
              · refine Wp.condF (b := (op0 == 9)) (by kernel_rfl) (by kernel_rfl) hb_7 ?_
                obtain ⟨v_8, hj_9, h⟩ := bsome h
                refine Wp.into (x := .normal) (mkS [(12, .bool v_8)] []) ?_ ?_
                · replace h := hj_9
                  rcases itesome h with ⟨hb_5_0, h⟩ | ⟨hb_5_0, h⟩
                  · refine Wp.reg tiok mix hc (by kernel_rfl) (ah := none) (rs := [some (.no), some (.no), some (.no), some (.no), some (.no), some (.cond true), some (.no)]) (kt := [12]) (ko := []) (T' := [(12, .bool (kid1 == 1))]) (O' := []) (by kernel_rfl) (And.intro hb_5_0 (And.intro hb_5_0 (And.intro hb_5_0 trivial))) (by kernel_rfl) (by kernel_rfl) ?_
                    obtain rfl := Option.some.inj h
                    exact Into.mk
                  · refine Wp.reg tiok mix hc (by kernel_rfl) (ah := none) (rs := [some (.no), some (.no), some (.no), none, none, some (.cond false), some (.no)]) (kt := [12]) (ko := []) (T' := [(12, .bool false)]) (O' := []) (by kernel_rfl) (And.intro (neT hb_5_0 : (op0 == 12) ≠ true) (And.intro (neT hb_5_0 : (op0 == 12) ≠ true) (And.intro hb_5_0 trivial))) (by kernel_rfl) (by kernel_rfl) ?_
                    obtain rfl := Option.some.inj h
                    exact Into.mk
                · clear hj_9
                  obtain rfl := Option.some.inj h
                  exact Into.mk
            · clear hj_11
              obtain rfl := Option.some.inj h
              exact Into.mk
        · clear hj_13
          refine seqQ_norm ?_
          rcases itesome h with ⟨hb_14, h⟩ | ⟨hb_14, h⟩
          · refine Wp.condT (b := j_12) (by kernel_rfl) (by kernel_rfl) hb_14 ?_
            refine Wp.seqN (by kernel_rfl) ?_
            refine Wp.reg tiok mix hc (by kernel_rfl) (ah := none) (rs := [some (.no)]) (kt := [4]) (ko := []) (T' := [(4, .int .i64 1)]) (O' := []) (by kernel_rfl) trivial (by kernel_rfl) (by kernel_rfl) ?_
            refine seqQ_norm ?_
            refine Wp.retN (by kernel_rfl) ?_
            refine blockQ_ret ?_
            refine seqQ_ret ?_
            obtain rfl := Option.some.inj h
            exact RetQ.ret (fl := [true]) (by kernel_rfl)
          · refine Wp.condF (b := j_12) (by kernel_rfl) (by kernel_rfl) hb_14 ?_
            refine Wp.skipN (by kernel_rfl) ?_
            refine blockQ_norm ?_
            refine seqQ_norm ?_
            refine Wp.seqN (by kernel_rfl) ?_
            refine Wp.reg tiok mix hc (by kernel_rfl) (ah := none) (rs := [some (.no)]) (kt := [4]) (ko := []) (T' := [(4, .int .i64 0)]) (O' := []) (by kernel_rfl) trivial (by kernel_rfl) (by kernel_rfl) ?_
            refine seqQ_norm ?_
            refine Wp.retN (by kernel_rfl) ?_
            obtain rfl := Option.some.inj h
            exact RetQ.ret (fl := [true]) (by kernel_rfl)
def impl_check_Kimpl_writtenSize_c1_Kimpl_isWrittenType_F1 (c : Ctx) : (Int) ⊕ (Int) → Exit → AState → Prop
  | .inl nodes_27 => Into c (.exit 1) (mkS [(4, .int .i64 nodes_27)] [])
  | .inr r => RetE TIx Try.f142 [] (.int .i64 r)
mutual
def impl_check_Kimpl_writtenSize_c1_Kimpl_isWrittenType (p : GTerm × Int × Int) : Option (Int) :=
  match p with
  | (t0, n1, nodes4) =>
    (impl_formOf t0.fOp) >>= fun (r_2_2_0, r_2_2_1) =>
    (
      if r_2_2_1 = true then
        if (decide ((wr (nodes4 + 1)) > 400)) = true then
          some (true)
        else
          some (((t0.fKids.length : Int) != r_2_2_0.fkids))
      else
        some (true)
    ) >>= fun v_1 =>
    if v_1 = true then
      some 401
    else
      (
        if (t0.fOp == 0) = true then
          (impl_within (t0.fN, 0, (wr (n1 - 1)))) >>= fun r_7_4 =>
          some (r_7_4)
        else
          (
            if (t0.fOp == 1) = true then
              (impl_within (t0.fN, 0, 2)) >>= fun r_9_2 =>
              some (r_9_2)
            else
              (
                if r_2_2_0.fgrade = true then
                  (impl_writtenSize_c1 t0.fN) >>= fun r_11_3 =>
                  some (r_11_3)
                else
                  some ((t0.fN == 0))
              ) >>= fun ok_7 =>
              some (ok_7)
          ) >>= fun ok_9 =>
          some (ok_9)
      ) >>= fun ok_11 =>
      (
        if r_2_2_0.ftyped = true then
          (
            if ok_11 = true then
              (impl_isWrittenType t0.fType) >>= fun r_13_5 =>
              some (r_13_5)
            else
              some (false)
          ) >>= fun ok_14 =>
          some (ok_14)
        else
          (
            if ok_11 = true then
              some (((t0.fType.length : Int) == 0))
            else
              some (false)
          ) >>= fun ok_16 =>
          some (ok_16)
      ) >>= fun ok_18 =>
      if ok_18 = true then
        (impl_check_Kimpl_writtenSize_c1_Kimpl_isWrittenType_l0 (t0, n1, (wr (nodes4 + 1)), 0)) >>= fun fl => match fl with
        | .inl nodes_27 =>
          some nodes_27
        | .inr r =>
          some r
      else
        some 401
  partial_fixpoint
def impl_check_Kimpl_writtenSize_c1_Kimpl_isWrittenType_l0 (p : GTerm × Int × Int × Int) : Option ((Int) ⊕ (Int)) :=
  match p with
  | (t0, n1, nodes_23, w_24) =>
    if (decide (w_24 < (t0.fKids.length : Int))) = true then
      (idx t0.fKids w_24) >>= fun e_19_1 =>
      (impl_adds (t0.fOp, w_24)) >>= fun r_20_5 =>
      (impl_check_Kimpl_writtenSize_c1_Kimpl_isWrittenType (e_19_1, (wr (n1 + r_20_5)), nodes_23)) >>= fun r_20_10 =>
      if (decide (r_20_10 > 400)) = true then
        some (.inr 401)
      else
        impl_check_Kimpl_writtenSize_c1_Kimpl_isWrittenType_l0 (t0, n1, r_20_10, (wr (w_24 + 1)))
    else
      some (.inl nodes_23)
  partial_fixpoint
end
def M_impl_check_Kimpl_writtenSize_c1_Kimpl_isWrittenType (p : GTerm × Int × Int) (r : Int) : Prop :=
  match p with
  | (t0, n1, nodes4) => FnSound Try.prog 142 [.agg [.int .i64 t0.fOp, .int .i64 t0.fN, .sl (List.map I t0.fType), .sl (List.map GTerm_S t0.fKids)], .int .i64 n1, .fn 152 [], .fn 150 [], .int .i64 nodes4] (.int .i64 r) []
def M_impl_check_Kimpl_writtenSize_c1_Kimpl_isWrittenType_l0 (p : GTerm × Int × Int × Int) (fl : (Int) ⊕ (Int)) : Prop :=
  match p with
  | (t0, n1, nodes_23, w_24) => ∀ c : Ctx, c.nt = 104 → WpL Try.prog c (cl (cl (cr (cl (cr (cr (cr (cr (cr (cr (cr B142))))))))))) (impl_check_Kimpl_writtenSize_c1_Kimpl_isWrittenType_F1 c fl) (mkS [(1, .int .i64 n1), (2, .fn 152 []), (3, .fn 150 []), (4, .int .i64 nodes_23), (5, .ra 1 0), (82, .sl (List.map GTerm_S t0.fKids)), (83, .int .i64 (t0.fKids.length : Int)), (84, .int .i64 w_24)] [(1, .box [.int .i64 t0.fOp, .int .i64 t0.fN, .sl (List.map I t0.fType), .sl (List.map GTerm_S t0.fKids)])])
theorem impl_check_Kimpl_writtenSize_c1_Kimpl_isWrittenType_all : (∀ p r, impl_check_Kimpl_writtenSize_c1_Kimpl_isWrittenType p = some r → M_impl_check_Kimpl_writtenSize_c1_Kimpl_isWrittenType p r) ∧ (∀ p r, impl_check_Kimpl_writtenSize_c1_Kimpl_isWrittenType_l0 p = some r → M_impl_check_Kimpl_writtenSize_c1_Kimpl_isWrittenType_l0 p r) := by
  refine impl_check_Kimpl_writtenSize_c1_Kimpl_isWrittenType.mutual_partial_correctness M_impl_check_Kimpl_writtenSize_c1_Kimpl_isWrittenType M_impl_check_Kimpl_writtenSize_c1_Kimpl_isWrittenType_l0 ?_ ?_
  · rintro impl_check_Kimpl_writtenSize_c1_Kimpl_isWrittenType_l0_f impl_check_Kimpl_writtenSize_c1_Kimpl_isWrittenType_l0_ih ⟨t0, n1, nodes4⟩ r h
    show FnSound Try.prog 142 [.agg [.int .i64 t0.fOp, .int .i64 t0.fN, .sl (List.map I t0.fType), .sl (List.map GTerm_S t0.fKids)], .int .i64 n1, .fn 152 [], .fn 150 [], .int .i64 nodes4] (.int .i64 r) []
    refine FnSound.body0 tiok (fn := Try.f142) (code := B142) (by kernel_rfl) (by kernel_rfl) (by kernel_rfl) (by kernel_rfl) (nt := 104) (by kernel_rfl) (by kernel_rfl) (T := [(0, .agg [.int .i64 t0.fOp, .int .i64 t0.fN, .sl (List.map I t0.fType), .sl (List.map GTerm_S t0.fKids)]), (1, .int .i64 n1), (2, .fn 152 []), (3, .fn 150 []), (4, .int .i64 nodes4)]) (O := []) (by kernel_rfl) (by kernel_rfl) (fun c hc => ?_)
    refine Wp.seqN (by kernel_rfl) ?_
    refine Wp.reg tiok mix hc (by kernel_rfl) (ah := none) (rs := [some (.new 1), some (.no)]) (kt := [1, 2, 3, 4, 5]) (ko := [1]) (T' := [(1, .int .i64 n1), (2, .fn 152 []), (3, .fn 150 []), (4, .int .i64 nodes4), (5, .ra 1 0)]) (O' := [(1, .box [.int .i64 t0.fOp, .int .i64 t0.fN, .sl (List.map I t0.fType), .sl (List.map GTerm_S t0.fKids)])]) (by kernel_rfl) trivial (by kernel_rfl) (by kernel_rfl) ?_
    refine seqQ_norm ?_
    refine Wp.seqN (by kernel_rfl) ?_
    refine Wp.reg tiok mix hc (by kernel_rfl) (ah := none) (rs := [some (.no), some (.no), some (.no)]) (kt := [1, 2, 3, 4, 5]) (ko := [1]) (T' := [(1, .int .i64 n1), (2, .fn 152 []), (3, .fn 150 []), (4, .int .i64 (wr (nodes4 + 1))), (5, .ra 1 0)]) (O' := [(1, .box [.int .i64 t0.fOp, .int .i64 t0.fN, .sl (List.map I t0.fType), .sl (List.map GTerm_S t0.fKids)])]) (by kernel_rfl) trivial (by kernel_rfl) (by kernel_rfl) ?_
    refine seqQ_norm ?_
    refine Wp.seqN (by kernel_rfl) ?_
    obtain ⟨⟨r_2_2_0, r_2_2_1⟩, hr_2_2, h⟩ := bsome h
    refine Wp.reg tiok mix hc (by kernel_rfl) (ah := none) (rs := [some (.no), some (.no), some (.call (.tup [.agg [.str r_2_2_0.fword, .int .i64 r_2_2_0.fkids, .bool r_2_2_0.fgrade, .bool r_2_2_0.ftyped], .bool r_2_2_1]) [] 1), some (.no), some (.no), some (.no), some (.new 2), some (.no), some (.no)]) (kt := [1, 2, 3, 4, 5, 11, 12]) (ko := [1, 2]) (T' := [(1, .int .i64 n1), (2, .fn 152 []), (3, .fn 150 []), (4, .int .i64 (wr (nodes4 + 1))), (5, .ra 1 0), (11, .ra 2 0), (12, .bool r_2_2_1)]) (O' := [(1, .box [.int .i64 t0.fOp, .int .i64 t0.fN, .sl (List.map I t0.fType), .sl (List.map GTerm_S t0.fKids)]), (2, .box [.str r_2_2_0.fword, .int .i64 r_2_2_0.fkids, .bool r_2_2_0.fgrade, .bool r_2_2_0.ftyped])]) (by kernel_rfl) (And.intro (impl_formOf_s _ _ hr_2_2) (And.intro bod_111 (And.intro (Or.inl rfl : ([] : List Nat) = [] ∨ noSh (.tup [.agg [.str r_2_2_0.fword, .int .i64 r_2_2_0.fkids, .bool r_2_2_0.fgrade, .bool r_2_2_0.ftyped], .bool r_2_2_1]) = true) trivial))) (by kernel_rfl) (by kernel_rfl) ?_
    refine seqQ_norm ?_
    refine Wp.seqN (by kernel_rfl) ?_
    refine Wp.seqN (by kernel_rfl) ?_
    obtain ⟨v_1, hj_2, h⟩ := bsome h
    refine Wp.into (x := .normal) (mkS [(1, .int .i64 n1), (2, .fn 152 []), (3, .fn 150 []), (4, .int .i64 (wr (nodes4 + 1))), (5, .ra 1 0), (11, .ra 2 0), (36, .bool v_1)] [(1, .box [.int .i64 t0.fOp, .int .i64 t0.fN, .sl (List.map I t0.fType), .sl (List.map GTerm_S t0.fKids)]), (2, .box [.str r_2_2_0.fword, .int .i64 r_2_2_0.fkids, .bool r_2_2_0.fgrade, .bool r_2_2_0.ftyped])]) ?_ ?_
    · replace h := hj_2
      rcases itesome h with ⟨hb_3_0, h⟩ | ⟨hb_3_0, h⟩
      · rcases itesome h with ⟨hb_3_1, h⟩ | ⟨hb_3_1, h⟩
        · refine Wp.reg tiok mix hc (by kernel_rfl) (ah := none) (rs := [some (.no), some (.no), some (.no), some (.no), some (.no), some (.cond false), some (.no), none, none, none, none, none, none, some (.cond true)]) (kt := [1, 2, 3, 4, 5, 11, 36]) (ko := [1, 2]) (T' := [(1, .int .i64 n1), (2, .fn 152 []), (3, .fn 150 []), (4, .int .i64 (wr (nodes4 + 1))), (5, .ra 1 0), (11, .ra 2 0), (36, .bool true)]) (O' := [(1, .box [.int .i64 t0.fOp, .int .i64 t0.fN, .sl (List.map I t0.fType), .sl (List.map GTerm_S t0.fKids)]), (2, .box [.str r_2_2_0.fword, .int .i64 r_2_2_0.fkids, .bool r_2_2_0.fgrade, .bool r_2_2_0.ftyped])]) (by kernel_rfl) (And.intro (nF hb_3_0) (And.intro (nF hb_3_0) (And.intro (nF hb_3_0) (And.intro (neF hb_3_1 : (decide ((wr (nodes4 + 1)) > 400)) ≠ false) (And.intro (neF hb_3_1 : (decide ((wr (nodes4 + 1)) > 400)) ≠ false) (And.intro (neF hb_3_1 : (decide ((wr (nodes4 + 1)) > 400)) ≠ false) (And.intro (neF hb_3_1 : (decide ((wr (nodes4 + 1)) > 400)) ≠ false) (And.intro (neF hb_3_1 : (decide ((wr (nodes4 + 1)) > 400)) ≠ false) (And.intro (neF hb_3_1 : (decide ((wr (nodes4 + 1)) > 400)) ≠ false) (And.intro hb_3_1 trivial)))))))))) (by kernel_rfl) (by kernel_rfl) ?_
          obtain rfl := Option.some.inj h
          exact Into.mk
        · refine Wp.reg tiok mix hc (by kernel_rfl) (ah := none) (rs := [some (.no), some (.no), some (.no), some (.no), some (.no), some (.cond false), some (.no), some (.no), some (.no), some (.eqv (.no) ⟨[(32, .int .i64 (t0.fKids.length : Int))], [], []⟩), some (.no), some (.no), some (.no), some (.cond false)]) (kt := [1, 2, 3, 4, 5, 11, 36]) (ko := [1, 2]) (T' := [(1, .int .i64 n1), (2, .fn 152 []), (3, .fn 150 []), (4, .int .i64 (wr (nodes4 + 1))), (5, .ra 1 0), (11, .ra 2 0), (36, .bool ((t0.fKids.length : Int) != r_2_2_0.fkids))]) (O' := [(1, .box [.int .i64 t0.fOp, .int .i64 t0.fN, .sl (List.map I t0.fType), .sl (List.map GTerm_S t0.fKids)]), (2, .box [.str r_2_2_0.fword, .int .i64 r_2_2_0.fkids, .bool r_2_2_0.fgrade, .bool r_2_2_0.ftyped])]) (by kernel_rfl) (And.intro (nF hb_3_0) (And.intro (nF hb_3_0) (And.intro (nF hb_3_0) (And.intro hb_3_1 (And.intro hb_3_1 (And.intro hb_3_1 (And.intro (lenT (d := 32) GTerm_S t0.fKids) (And.intro hb_3_1 (And.intro hb_3_1 (And.intro hb_3_1 (And.intro hb_3_1 trivial))))))))))) (by kernel_rfl) (by kernel_rfl) ?_
          obtain rfl := Option.some.inj h
          exact Into.mk
      · refine Wp.reg tiok mix hc (by kernel_rfl) (ah := none) (rs := [some (.no), some (.no), some (.no), none, none, some (.cond true), some (.no), none, none, none, none, none, none, some (.cond true)]) (kt := [1, 2, 3, 4, 5, 11, 36]) (ko := [1, 2]) (T' := [(1, .int .i64 n1), (2, .fn 152 []), (3, .fn 150 []), (4, .int .i64 (wr (nodes4 + 1))), (5, .ra 1 0), (11, .ra 2 0), (36, .bool true)]) (O' := [(1, .box [.int .i64 t0.fOp, .int .i64 t0.fN, .sl (List.map I t0.fType), .sl (List.map GTerm_S t0.fKids)]), (2, .box [.str r_2_2_0.fword, .int .i64 r_2_2_0.fkids, .bool r_2_2_0.fgrade, .bool r_2_2_0.ftyped])]) (by kernel_rfl) (And.intro (neF (nT hb_3_0) : (!r_2_2_1) ≠ false) (And.intro (neF (nT hb_3_0) : (!r_2_2_1) ≠ false) (And.intro (nT hb_3_0) (And.intro (neF (rfl : true = true) : true ≠ false) (And.intro (neF (rfl : true = true) : true ≠ false) (And.intro (neF (rfl : true = true) : true ≠ false) (And.intro (neF (rfl : true = true) : true ≠ false) (And.intro (neF (rfl : true = true) : true ≠ false) (And.intro (neF (rfl : true = true) : true ≠ false) (And.intro (rfl : true = true) trivial)))))))))) (by kernel_rfl) (by kernel_rfl) ?_
        obtain rfl := Option.some.inj h
        exact Into.mk
    · clear hj_2
      refine seqQ_norm ?_
      rcases itesome h with ⟨hb_3, h⟩ | ⟨hb_3, h⟩
      · refine Wp.condT (b := v_1) (by kernel_rfl) (by kernel_rfl) hb_3 ?_
        refine Wp.seqN (by kernel_rfl) ?_
        refine Wp.reg tiok mix hc (by kernel_rfl) (ah := none) (rs := [some (.no)]) (kt := [10]) (ko := []) (T' := [(10, .int .i64 401)]) (O' := []) (by kernel_rfl) trivial (by kernel_rfl) (by kernel_rfl) ?_
        refine seqQ_norm ?_
        refine Wp.retN (by kernel_rfl) ?_
        refine seqQ_ret ?_
        obtain rfl := Option.some.inj h
        exact RetQ.ret (fl := [true]) (by kernel_rfl)
      · refine Wp.condF (b := v_1) (by kernel_rfl) (by kernel_rfl) hb_3 ?_
        refine Wp.skipN (by kernel_rfl) ?_
        refine seqQ_norm ?_
        refine Wp.seqN (by kernel_rfl) ?_
        refine Wp.blockN (i := 0) (by kernel_rfl) ?_
        refine Wp.seqN (by kernel_rfl) ?_
        refine Wp.reg tiok mix hc (by kernel_rfl) (ah := none) (rs := [some (.no), some (.no), some (.no), some (.no)]) (kt := [1, 2, 3, 4, 5, 11, 40]) (ko := [1, 2]) (T' := [(1, .int .i64 n1), (2, .fn 152 []), (3, .fn 150 []), (4, .int .i64 (wr (nodes4 + 1))), (5, .ra 1 0), (11, .ra 2 0), (40, .bool (t0.fOp == 0))]) (O' := [(1, .box [.int .i64 t0.fOp, .int .i64 t0.fN, .sl (List.map I t0.fType), .sl (List.map GTerm_S t0.fKids)]), (2, .box [.str r_2_2_0.fword, .int .i64 r_2_2_0.fkids, .bool r_2_2_0.fgrade, .bool r_2_2_0.ftyped])]) (by kernel_rfl) trivial (by kernel_rfl) (by kernel_rfl) ?_
        refine seqQ_norm ?_
        obtain ⟨ok_11, hj_12, h⟩ := bsome h
        refine Wp.into (x := .normal) (mkS [(1, .int .i64 n1), (2, .fn 152 []), (3, .fn 150 []), (4, .int .i64 (wr (nodes4 + 1))), (5, .ra 1 0), (11, .ra 2 0), (12, .bool ok_11)] [(1, .box [.int .i64 t0.fOp, .int .i64 t0.fN, .sl (List.map I t0.fType), .sl (List.map GTerm_S t0.fKids)]), (2, .box [.str r_2_2_0.fword, .int .i64 r_2_2_0.fkids, .bool r_2_2_0.fgrade, .bool r_2_2_0.ftyped])]) ?_ ?_
        · replace h := hj_12
          rcases itesome h with ⟨hb_4, h⟩ | ⟨hb_4, h⟩
          · refine Wp.condT (b := (t0.fOp == 0)) (by kernel_rfl) (by kernel_rfl) hb_4 ?_
            obtain ⟨r_7_4, hr_7_4, h⟩ := bsome h
            refine Wp.reg tiok mix hc (by kernel_rfl) (ah := none) (rs := [some (.no), some (.no), some (.no), some (.no), some (.call (.bool r_7_4) [] 1), some (.no)]) (kt := [1, 2, 3, 4, 5, 11, 12]) (ko := [1, 2]) (T' := [(1, .int .i64 n1), (2, .fn 152 []), (3, .fn 150 []), (4, .int .i64 (wr (nodes4 + 1))), (5, .ra 1 0), (11, .ra 2 0), (12, .bool r_7_4)]) (O' := [(1, .box [.int .i64 t0.fOp, .int .i64 t0.fN, .sl (List.map I t0.fType), .sl (List.map GTerm_S t0.fKids)]), (2, .box [.str r_2_2_0.fword, .int .i64 r_2_2_0.fkids, .bool r_2_2_0.fgrade, .bool r_2_2_0.ftyped])]) (by kernel_rfl) (And.intro (impl_within_s _ _ hr_7_4) (And.intro bod_64 (And.intro (Or.inl rfl : ([] : List Nat) = [] ∨ noSh (.bool r_7_4) = true) trivial))) (by kernel_rfl) (by kernel_rfl) ?_
            obtain rfl := Option.some.inj h
            exact Into.mk
          · refine Wp.condF (b := (t0.fOp == 0)) (by kernel_rfl) (by kernel_rfl) hb_4 ?_
            refine Wp.seqN (by kernel_rfl) ?_
            refine Wp.reg tiok mix hc (by kernel_rfl) (ah := none) (rs := [some (.no), some (.no), some (.no), some (.no)]) (kt := [1, 2, 3, 4, 5, 11, 49]) (ko := [1, 2]) (T' := [(1, .int .i64 n1), (2, .fn 152 []), (3, .fn 150 []), (4, .int .i64 (wr (nodes4 + 1))), (5, .ra 1 0), (11, .ra 2 0), (49, .bool (t0.fOp == 1))]) (O' := [(1, .box [.int .i64 t0.fOp, .int .i64 t0.fN, .sl (List.map I t0.fType), .sl (List.map GTerm_S t0.fKids)]), (2, .box [.str r_2_2_0.fword, .int .i64 r_2_2_0.fkids, .bool r_2_2_0.fgrade, .bool r_2_2_0.ftyped])]) (by kernel_rfl) trivial (by kernel_rfl) (by kernel_rfl) ?_
            refine seqQ_norm ?_
            obtain ⟨ok_9, hj_10, h⟩ := bsome h
            refine Wp.into (x := .normal) (mkS [(1, .int .i64 n1), (2, .fn 152 []), (3, .fn 150 []), (4, .int .i64 (wr (nodes4 + 1))), (5, .ra 1 0), (11, .ra 2 0), (12, .bool ok_9)] [(1, .box [.int .i64 t0.fOp, .int .i64 t0.fN, .sl (List.map I t0.fType), .sl (List.map GTerm_S t0.fKids)]), (2, .box [.str r_2_2_0.fword, .int .i64 r_2_2_0.fkids, .bool r_2_2_0.fgrade, .bool r_2_2_0.ftyped])]) ?_ ?_
            · replace h := hj_10
              rcases itesome h with ⟨hb_5, h⟩ | ⟨hb_5, h⟩
              · refine Wp.condT (b := (t0.fOp == 1)) (by kernel_rfl) (by kernel_rfl) hb_5 ?_
                obtain ⟨r_9_2, hr_9_2, h⟩ := bsome h
                refine Wp.reg tiok mix hc (by kernel_rfl) (ah := none) (rs := [some (.no), some (.no), some (.call (.bool r_9_2) [] 1), some (.no)]) (kt := [1, 2, 3, 4, 5, 11, 12]) (ko := [1, 2]) (T' := [(1, .int .i64 n1), (2, .fn 152 []), (3, .fn 150 []), (4, .int .i64 (wr (nodes4 + 1))), (5, .ra 1 0), (11, .ra 2 0), (12, .bool r_9_2)]) (O' := [(1, .box [.int .i64 t0.fOp, .int .i64 t0.fN, .sl (List.map I t0.fType), .sl (List.map GTerm_S t0.fKids)]), (2, .box [.str r_2_2_0.fword, .int .i64 r_2_2_0.fkids, .bool r_2_2_0.fgrade, .bool r_2_2_0.ftyped])]) (by kernel_rfl) (And.intro (impl_within_s _ _ hr_9_2) (And.intro bod_64 (And.intro (Or.inl rfl : ([] : List Nat) = [] ∨ noSh (.bool r_9_2) = true) trivial))) (by kernel_rfl) (by kernel_rfl) ?_
                obtain rfl := Option.some.inj h
                exact Into.mk
              · refine Wp.condF (b := (t0.fOp == 1)) (by kernel_rfl) (by kernel_rfl) hb_5 ?_
                refine Wp.seqN (by kernel_rfl) ?_
                refine Wp.reg tiok mix hc (by kernel_rfl) (ah := none) (rs := [some (.no), some (.no), some (.no)]) (kt := [1, 2, 3, 4, 5, 11, 56]) (ko := [1, 2]) (T' := [(1, .int .i64 n1), (2, .fn 152 []), (3, .fn 150 []), (4, .int .i64 (wr (nodes4 + 1))), (5, .ra 1 0), (11, .ra 2 0), (56, .bool r_2_2_0.fgrade)]) (O' := [(1, .box [.int .i64 t0.fOp, .int .i64 t0.fN, .sl (List.map I t0.fType), .sl (List.map GTerm_S t0.fKids)]), (2, .box [.str r_2_2_0.fword, .int .i64 r_2_2_0.fkids, .bool r_2_2_0.fgrade, .bool r_2_2_0.ftyped])]) (by kernel_rfl) trivial (by kernel_rfl) (by kernel_rfl) ?_
                refine seqQ_norm ?_
                obtain ⟨ok_7, hj_8, h⟩ := bsome h
                refine Wp.into (x := .normal) (mkS [(1, .int .i64 n1), (2, .fn 152 []), (3, .fn 150 []), (4, .int .i64 (wr (nodes4 + 1))), (5, .ra 1 0), (11, .ra 2 0), (12, .bool ok_7)] [(1, .box [.int .i64 t0.fOp, .int .i64 t0.fN, .sl (List.map I t0.fType), .sl (List.map GTerm_S t0.fKids)]), (2, .box [.str r_2_2_0.fword, .int .i64 r_2_2_0.fkids, .bool r_2_2_0.fgrade, .bool r_2_2_0.ftyped])]) ?_ ?_
                · replace h := hj_8
                  rcases itesome h with ⟨hb_6, h⟩ | ⟨hb_6, h⟩
                  · refine Wp.condT (b := r_2_2_0.fgrade) (by kernel_rfl) (by kernel_rfl) hb_6 ?_
                    obtain ⟨r_11_3, hr_11_3, h⟩ := bsome h
                    refine Wp.reg tiok mix hc (by kernel_rfl) (ah := none) (rs := [some (.no), some (.no), some (.no), some (.call (.bool r_11_3) [] 1), some (.no)]) (kt := [1, 2, 3, 4, 5, 11, 12]) (ko := [1, 2]) (T' := [(1, .int .i64 n1), (2, .fn 152 []), (3, .fn 150 []), (4, .int .i64 (wr (nodes4 + 1))), (5, .ra 1 0), (11, .ra 2 0), (12, .bool r_11_3)]) (O' := [(1, .box [.int .i64 t0.fOp, .int .i64 t0.fN, .sl (List.map I t0.fType), .sl (List.map GTerm_S t0.fKids)]), (2, .box [.str r_2_2_0.fword, .int .i64 r_2_2_0.fkids, .bool r_2_2_0.fgrade, .bool r_2_2_0.ftyped])]) (by kernel_rfl) (And.intro (impl_writtenSize_c1_s _ _ hr_11_3) (And.intro bod_152 (And.intro (Or.inl rfl : ([] : List Nat) = [] ∨ noSh (.bool r_11_3) = true) trivial))) (by kernel_rfl) (by kernel_rfl) ?_
                    obtain rfl := Option.some.inj h
                    exact Into.mk
                  · refine Wp.condF (b := r_2_2_0.fgrade) (by kernel_rfl) (by kernel_rfl) hb_6 ?_
                    refine Wp.reg tiok mix hc (by kernel_rfl) (ah := none) (rs := [some (.no), some (.no), some (.no), some (.no)]) (kt := [1, 2, 3, 4, 5, 11, 12]) (ko := [1, 2]) (T' := [(1, .int .i64 n1), (2, .fn 152 []), (3, .fn 150 []), (4, .int .i64 (wr (nodes4 + 1))), (5, .ra 1 0), (11, .ra 2 0), (12, .bool (t0.fN == 0))]) (O' := [(1, .box [.int .i64 t0.fOp, .int .i64 t0.fN, .sl (List.map I t0.fType), .sl (List.map GTerm_S t0.fKids)]), (2, .box [.str r_2_2_0.fword, .int .i64 r_2_2_0.fkids, .bool r_2_2_0.fgrade, .bool r_2_2_0.ftyped])]) (by kernel_rfl) trivial (by kernel_rfl) (by kernel_rfl) ?_
                    obtain rfl := Option.some.inj h
                    exact Into.mk
                · clear hj_8
                  obtain rfl := Option.some.inj h
                  exact Into.mk
            · clear hj_10
              obtain rfl := Option.some.inj h
              exact Into.mk
        · clear hj_12
          refine blockQ_norm ?_
          refine seqQ_norm ?_
          refine Wp.seqN (by kernel_rfl) ?_
          refine Wp.seqN (by kernel_rfl) ?_
          refine Wp.reg tiok mix hc (by kernel_rfl) (ah := none) (rs := [some (.no), some (.no)]) (kt := [1, 2, 3, 4, 5, 12, 64]) (ko := [1]) (T' := [(1, .int .i64 n1), (2, .fn 152 []), (3, .fn 150 []), (4, .int .i64 (wr (nodes4 + 1))), (5, .ra 1 0), (12, .bool ok_11), (64, .bool r_2_2_0.ftyped)]) (O' := [(1, .box [.int .i64 t0.fOp, .int .i64 t0.fN, .sl (List.map I t0.fType), .sl (List.map GTerm_S t0.fKids)])]) (by kernel_rfl) trivial (by kernel_rfl) (by kernel_rfl) ?_
          refine seqQ_norm ?_
          obtain ⟨ok_18, hj_19, h⟩ := bsome h
          refine Wp.into (x := .normal) (mkS [(1, .int .i64 n1), (2, .fn 152 []), (3, .fn 150 []), (4, .int .i64 (wr (nodes4 + 1))), (5, .ra 1 0), (12, .bool ok_18)] [(1, .box [.int .i64 t0.fOp, .int .i64 t0.fN, .sl (List.map I t0.fType), .sl (List.map GTerm_S t0.fKids)])]) ?_ ?_
          · replace h := hj_19
            rcases itesome h with ⟨hb_13, h⟩ | ⟨hb_13, h⟩
            · refine Wp.condT (b := r_2_2_0.ftyped) (by kernel_rfl) (by kernel_rfl) hb_13 ?_
              obtain ⟨ok_14, hj_15, h⟩ := bsome h
              refine Wp.into (x := .normal) (mkS [(1, .int .i64 n1), (2, .fn 152 []), (3, .fn 150 []), (4, .int .i64 (wr (nodes4 + 1))), (5, .ra 1 0), (12, .bool ok_14)] [(1, .box [.int .i64 t0.fOp, .int .i64 t0.fN, .sl (List.map I t0.fType), .sl (List.map GTerm_S t0.fKids)])]) ?_ ?_
              · replace h := hj_15
                rcases itesome h with ⟨hb_13_0, h⟩ | ⟨hb_13_0, h⟩
                · obtain ⟨r_13_5, hr_13_5, h⟩ := bsome h
                  refine Wp.reg tiok mix hc (by kernel_rfl) (ah := none) (rs := [some (.no), some (.no), some (.no), some (.no), some (.no), some (.call (.bool r_13_5) [] 1), some (.cond true), some (.no)]) (kt := [1, 2, 3, 4, 5, 12]) (ko := [1]) (T' := [(1, .int .i64 n1), (2, .fn 152 []), (3, .fn 150 []), (4, .int .i64 (wr (nodes4 + 1))), (5, .ra 1 0), (12, .bool r_13_5)]) (O' := [(1, .box [.int .i64 t0.fOp, .int .i64 t0.fN, .sl (List.map I t0.fType), .sl (List.map GTerm_S t0.fKids)])]) (by kernel_rfl) (And.intro hb_13_0 (And.intro hb_13_0 (And.intro hb_13_0 (And.intro hb_13_0 (And.intro (impl_isWrittenType_s _ _ hr_13_5) (And.intro bod_150 (And.intro (Or.inl rfl : ([] : List Nat) = [] ∨ noSh (.bool r_13_5) = true) (And.intro hb_13_0 trivial)))))))) (by kernel_rfl) (by kernel_rfl) ?_
                  obtain rfl := Option.some.inj h
                  exact Into.mk
                · refine Wp.reg tiok mix hc (by kernel_rfl) (ah := none) (rs := [some (.no), some (.no), none, none, none, none, some (.cond false), some (.no)]) (kt := [1, 2, 3, 4, 5, 12]) (ko := [1]) (T' := [(1, .int .i64 n1), (2, .fn 152 []), (3, .fn 150 []), (4, .int .i64 (wr (nodes4 + 1))), (5, .ra 1 0), (12, .bool false)]) (O' := [(1, .box [.int .i64 t0.fOp, .int .i64 t0.fN, .sl (List.map I t0.fType), .sl (List.map GTerm_S t0.fKids)])]) (by kernel_rfl) (And.intro (neT hb_13_0 : ok_11 ≠ true) (And.intro (neT hb_13_0 : ok_11 ≠ true) (And.intro (neT hb_13_0 : ok_11 ≠ true) (And.intro (neT hb_13_0 : ok_11 ≠ true) (And.intro hb_13_0 trivial))))) (by kernel_rfl) (by kernel_rfl) ?_
                  obtain rfl := Option.some.inj h
                  exact Into.mk
              · clear hj_15
                obtain rfl := Option.some.inj h
                exact Into.mk
            · refine Wp.condF (b := r_2_2_0.ftyped) (by kernel_rfl) (by kernel_rfl) hb_13 ?_
              obtain ⟨ok_16, hj_17, h⟩ := bsome h
              refine Wp.into (x := .normal) (mkS [(1, .int .i64 n1), (2, .fn 152 []), (3, .fn 150 []), (4, .int .i64 (wr (nodes4 + 1))), (5, .ra 1 0), (12, .bool ok_16)] [(1, .box [.int .i64 t0.fOp, .int .i64 t0.fN, .sl (List.map I t0.fType), .sl (List.map GTerm_S t0.fKids)])]) ?_ ?_
              · replace h := hj_17
                rcases itesome h with ⟨hb_14_0, h⟩ | ⟨hb_14_0, h⟩
                · refine Wp.reg tiok mix hc (by kernel_rfl) (ah := none) (rs := [some (.no), some (.no), some (.no), some (.no), some (.eqv (.no) ⟨[(76, .int .i64 (t0.fType.length : Int))], [], []⟩), some (.no), some (.cond true), some (.no)]) (kt := [1, 2, 3, 4, 5, 12]) (ko := [1]) (T' := [(1, .int .i64 n1), (2, .fn 152 []), (3, .fn 150 []), (4, .int .i64 (wr (nodes4 + 1))), (5, .ra 1 0), (12, .bool ((t0.fType.length : Int) == 0))]) (O' := [(1, .box [.int .i64 t0.fOp, .int .i64 t0.fN, .sl (List.map I t0.fType), .sl (List.map GTerm_S t0.fKids)])]) (by kernel_rfl) (And.intro hb_14_0 (And.intro hb_14_0 (And.intro hb_14_0 (And.intro (lenT (d := 76) I t0.fType) (And.intro hb_14_0 (And.intro hb_14_0 trivial)))))) (by kernel_rfl) (by kernel_rfl) ?_
                  obtain rfl := Option.some.inj h
                  exact Into.mk
                · refine Wp.reg tiok mix hc (by kernel_rfl) (ah := none) (rs := [some (.no), some (.no), none, none, none, none, some (.cond false), some (.no)]) (kt := [1, 2, 3, 4, 5, 12]) (ko := [1]) (T' := [(1, .int .i64 n1), (2, .fn 152 []), (3, .fn 150 []), (4, .int .i64 (wr (nodes4 + 1))), (5, .ra 1 0), (12, .bool false)]) (O' := [(1, .box [.int .i64 t0.fOp, .int .i64 t0.fN, .sl (List.map I t0.fType), .sl (List.map GTerm_S t0.fKids)])]) (by kernel_rfl) (And.intro (neT hb_14_0 : ok_11 ≠ true) (And.intro (neT hb_14_0 : ok_11 ≠ true) (And.intro (neT hb_14_0 : ok_11 ≠ true) (And.intro (neT hb_14_0 : ok_11 ≠ true) (And.intro hb_14_0 trivial))))) (by kernel_rfl) (by kernel_rfl) ?_
                  obtain rfl := Option.some.inj h
                  exact Into.mk
              · clear hj_17
                obtain rfl := Option.some.inj h
                exact Into.mk
          · clear hj_19
            refine seqQ_norm ?_
            refine Wp.seqN (by kernel_rfl) ?_
            refine Wp.seqN (by kernel_rfl) ?_
            refine Wp.reg tiok mix hc (by kernel_rfl) (ah := none) (rs := [some (.no), some (.no)]) (kt := [1, 2, 3, 4, 5, 80]) (ko := [1]) (T' := [(1, .int .i64 n1), (2, .fn 152 []), (3, .fn 150 []), (4, .int .i64 (wr (nodes4 + 1))), (5, .ra 1 0), (80, .bool (!ok_18))]) (O' := [(1, .box [.int .i64 t0.fOp, .int .i64 t0.fN, .sl (List.map I t0.fType), .sl (List.map GTerm_S t0.fKids)])]) (by kernel_rfl) trivial (by kernel_rfl) (by kernel_rfl) ?_
            refine seqQ_norm ?_
            rcases itesome h with ⟨hb_20, h⟩ | ⟨hb_20, h⟩
            · refine Wp.condF (b := (!ok_18)) (by kernel_rfl) (by kernel_rfl) (nF hb_20) ?_
              refine Wp.skipN (by kernel_rfl) ?_
              refine seqQ_norm ?_
              refine Wp.seqN (by kernel_rfl) ?_
              refine Wp.seqN (by kernel_rfl) ?_
              refine Wp.reg tiok mix hc (by kernel_rfl) (ah := none) (rs := [some (.no), some (.no), some (.eqv (.no) ⟨[(83, .int .i64 (t0.fKids.length : Int))], [], []⟩), some (.no)]) (kt := [1, 2, 3, 4, 5, 82, 83, 84]) (ko := [1]) (T' := [(1, .int .i64 n1), (2, .fn 152 []), (3, .fn 150 []), (4, .int .i64 (wr (nodes4 + 1))), (5, .ra 1 0), (82, .sl (List.map GTerm_S t0.fKids)), (83, .int .i64 (t0.fKids.length : Int)), (84, .int .i64 0)]) (O' := [(1, .box [.int .i64 t0.fOp, .int .i64 t0.fN, .sl (List.map I t0.fType), .sl (List.map GTerm_S t0.fKids)])]) (by kernel_rfl) (And.intro (lenT (d := 83) GTerm_S t0.fKids) trivial) (by kernel_rfl) (by kernel_rfl) ?_
              refine seqQ_norm ?_
              refine Wp.blockN (i := 1) (by kernel_rfl) ?_
              obtain ⟨fl, hl_28, h⟩ := bsome h
              have hL := impl_check_Kimpl_writtenSize_c1_Kimpl_isWrittenType_l0_ih _ _ hl_28 c hc
              refine Wp.loopN (by kernel_rfl) ?_
              rcases fl with nodes_27 | r
              · refine WpL.into (e := (.exit 1)) (mkS [(4, .int .i64 nodes_27)] []) hL ?_
                refine blockQ_hit ?_
                refine seqQ_norm ?_
                refine Wp.seqN (by kernel_rfl) ?_
                refine Wp.reg tiok mix hc (by kernel_rfl) (ah := none) (rs := [some (.no), some (.no)]) (kt := [10]) (ko := []) (T' := [(10, .int .i64 nodes_27)]) (O' := []) (by kernel_rfl) trivial (by kernel_rfl) (by kernel_rfl) ?_
                refine seqQ_norm ?_
                refine Wp.retN (by kernel_rfl) ?_
                obtain rfl := Option.some.inj h
                exact RetQ.ret (fl := [true]) (by kernel_rfl)
              · refine WpL.mono hL ?_
                rintro _ _ ⟨rfl, hfin⟩
                refine blockQ_ret ?_
                refine seqQ_ret ?_
                obtain rfl := Option.some.inj h
                exact ⟨.inl rfl, hfin⟩
            · refine Wp.condT (b := (!ok_18)) (by kernel_rfl) (by kernel_rfl) (nT hb_20) ?_
              refine Wp.seqN (by kernel_rfl) ?_
              refine Wp.reg tiok mix hc (by kernel_rfl) (ah := none) (rs := [some (.no)]) (kt := [10]) (ko := []) (T' := [(10, .int .i64 401)]) (O' := []) (by kernel_rfl) trivial (by kernel_rfl) (by kernel_rfl) ?_
              refine seqQ_norm ?_
              refine Wp.retN (by kernel_rfl) ?_
              refine seqQ_ret ?_
              obtain rfl := Option.some.inj h
              exact RetQ.ret (fl := [true]) (by kernel_rfl)
  · rintro impl_check_Kimpl_writtenSize_c1_Kimpl_isWrittenType_f impl_check_Kimpl_writtenSize_c1_Kimpl_isWrittenType_l0_f impl_check_Kimpl_writtenSize_c1_Kimpl_isWrittenType_ih impl_check_Kimpl_writtenSize_c1_Kimpl_isWrittenType_l0_ih ⟨t0, n1, nodes_23, w_24⟩ r h
    intro c hc
    show WpL Try.prog c (cl (cl (cr (cl (cr (cr (cr (cr (cr (cr (cr B142))))))))))) (impl_check_Kimpl_writtenSize_c1_Kimpl_isWrittenType_F1 c r) (mkS [(1, .int .i64 n1), (2, .fn 152 []), (3, .fn 150 []), (4, .int .i64 nodes_23), (5, .ra 1 0), (82, .sl (List.map GTerm_S t0.fKids)), (83, .int .i64 (t0.fKids.length : Int)), (84, .int .i64 w_24)] [(1, .box [.int .i64 t0.fOp, .int .i64 t0.fN, .sl (List.map I t0.fType), .sl (List.map GTerm_S t0.fKids)])])
    refine WpL.step ?_
    refine Wp.seqN (by kernel_rfl) ?_
    refine Wp.reg tiok mix hc (by kernel_rfl) (ah := none) (rs := [some (.no)]) (kt := [1, 2, 3, 4, 5, 82, 83, 84, 85]) (ko := [1]) (T' := [(1, .int .i64 n1), (2, .fn 152 []), (3, .fn 150 []), (4, .int .i64 nodes_23), (5, .ra 1 0), (82, .sl (List.map GTerm_S t0.fKids)), (83, .int .i64 (t0.fKids.length : Int)), (84, .int .i64 w_24), (85, .bool (decide (w_24 < (t0.fKids.length : Int))))]) (O' := [(1, .box [.int .i64 t0.fOp, .int .i64 t0.fN, .sl (List.map I t0.fType), .sl (List.map GTerm_S t0.fKids)])]) (by kernel_rfl) trivial (by kernel_rfl) (by kernel_rfl) ?_
    refine seqQ_norm ?_
    refine Wp.seqN (by kernel_rfl) ?_
    rcases itesome h with ⟨hb_25, h⟩ | ⟨hb_25, h⟩
    · refine Wp.condT (b := (decide (w_24 < (t0.fKids.length : Int)))) (by kernel_rfl) (by kernel_rfl) hb_25 ?_
      refine Wp.skipN (by kernel_rfl) ?_
      refine seqQ_norm ?_
      refine Wp.seqN (by kernel_rfl) ?_
      refine Wp.blockN (i := 2) (by kernel_rfl) ?_
      refine Wp.seqN (by kernel_rfl) ?_
      obtain ⟨e_19_1, hi_19_1, h⟩ := bsome h
      refine Wp.reg tiok mix hc (by kernel_rfl) (ah := none) (rs := [some (.no), some (.el (.agg [.int .i64 e_19_1.fOp, .int .i64 e_19_1.fN, .sl (List.map I e_19_1.fType), .sl (List.map GTerm_S e_19_1.fKids)])), some (.no), some (.new 4), some (.no), some (.no)]) (kt := [1, 2, 3, 4, 5, 13, 14, 82, 83, 84]) (ko := [1, 4]) (T' := [(1, .int .i64 n1), (2, .fn 152 []), (3, .fn 150 []), (4, .int .i64 nodes_23), (5, .ra 1 0), (13, .int .i64 w_24), (14, .ra 4 0), (82, .sl (List.map GTerm_S t0.fKids)), (83, .int .i64 (t0.fKids.length : Int)), (84, .int .i64 w_24)]) (O' := [(1, .box [.int .i64 t0.fOp, .int .i64 t0.fN, .sl (List.map I t0.fType), .sl (List.map GTerm_S t0.fKids)]), (4, .box [.int .i64 e_19_1.fOp, .int .i64 e_19_1.fN, .sl (List.map I e_19_1.fType), .sl (List.map GTerm_S e_19_1.fKids)])]) (by kernel_rfl) (And.intro (idx_sl (enc := GTerm_S) (x := .agg [.int .i64 e_19_1.fOp, .int .i64 e_19_1.fN, .sl (List.map I e_19_1.fType), .sl (List.map GTerm_S e_19_1.fKids)]) hi_19_1 (eq_GTerm_S e_19_1)) trivial) (by kernel_rfl) (by kernel_rfl) ?_
      refine seqQ_norm ?_
      refine Wp.seqN (by kernel_rfl) ?_
      obtain ⟨r_20_5, hr_20_5, h⟩ := bsome h
      obtain ⟨r_20_10, hr_20_10, h⟩ := bsome h
      refine Wp.reg tiok mix hc (by kernel_rfl) (ah := (some [[], [], [], [2], [], [2, 3, 4], [1, 2, 3, 4, 5], [], [], [], [0, 1, 2, 3, 4, 5, 6, 7, 8, 9], [0, 1, 2, 3, 4, 5, 6, 7, 8, 9, 10]])) (rs := [some (.no), some (.no), some (.no), some (.no), some (.no), some (.call (.int .i64 r_20_5) [] 1), some (.no), some (.no), some (.no), some (.no), some (.call (.int .i64 r_20_10) [] 1), some (.no)]) (kt := [1, 2, 3, 4, 5, 82, 83, 84]) (ko := [1]) (T' := [(1, .int .i64 n1), (2, .fn 152 []), (3, .fn 150 []), (4, .int .i64 r_20_10), (5, .ra 1 0), (82, .sl (List.map GTerm_S t0.fKids)), (83, .int .i64 (t0.fKids.length : Int)), (84, .int .i64 w_24)]) (O' := [(1, .box [.int .i64 t0.fOp, .int .i64 t0.fN, .sl (List.map I t0.fType), .sl (List.map GTerm_S t0.fKids)])]) (by kernel_rfl) (And.intro (impl_adds_s _ _ hr_20_5) (And.intro bod_165 (And.intro (Or.inl rfl : ([] : List Nat) = [] ∨ noSh (.int .i64 r_20_5) = true) (And.intro (impl_check_Kimpl_writtenSize_c1_Kimpl_isWrittenType_ih _ _ hr_20_10) (And.intro bod_142 (And.intro (Or.inl rfl : ([] : List Nat) = [] ∨ noSh (.int .i64 r_20_10) = true) trivial)))))) (by kernel_rfl) (by kernel_rfl) ?_
      refine seqQ_norm ?_
      refine Wp.seqN (by kernel_rfl) ?_
      refine Wp.reg tiok mix hc (by kernel_rfl) (ah := none) (rs := [some (.no), some (.no)]) (kt := [1, 2, 3, 4, 5, 82, 83, 84, 101]) (ko := [1]) (T' := [(1, .int .i64 n1), (2, .fn 152 []), (3, .fn 150 []), (4, .int .i64 r_20_10), (5, .ra 1 0), (82, .sl (List.map GTerm_S t0.fKids)), (83, .int .i64 (t0.fKids.length : Int)), (84, .int .i64 w_24), (101, .bool (decide (r_20_10 > 400)))]) (O' := [(1, .box [.int .i64 t0.fOp, .int .i64 t0.fN, .sl (List.map I t0.fType), .sl (List.map GTerm_S t0.fKids)])]) (by kernel_rfl) trivial (by kernel_rfl) (by kernel_rfl) ?_
      refine seqQ_norm ?_
      rcases itesome h with ⟨hb_26, h⟩ | ⟨hb_26, h⟩
      · refine Wp.condT (b := (decide (r_20_10 > 400))) (by kernel_rfl) (by kernel_rfl) hb_26 ?_
        refine Wp.seqN (by kernel_rfl) ?_
        refine Wp.reg tiok mix hc (by kernel_rfl) (ah := none) (rs := [some (.no)]) (kt := [10]) (ko := []) (T' := [(10, .int .i64 401)]) (O' := []) (by kernel_rfl) trivial (by kernel_rfl) (by kernel_rfl) ?_
        refine seqQ_norm ?_
        refine Wp.retN (by kernel_rfl) ?_
        refine blockQ_ret ?_
        refine seqQ_ret ?_
        refine loopQ_ret ?_
        obtain rfl := Option.some.inj h
        exact RetE.ret (fl := [true]) (by kernel_rfl)
      · refine Wp.condF (b := (decide (r_20_10 > 400))) (by kernel_rfl) (by kernel_rfl) hb_26 ?_
        refine Wp.skipN (by kernel_rfl) ?_
        refine blockQ_norm ?_
        refine seqQ_norm ?_
        refine Wp.reg tiok mix hc (by kernel_rfl) (ah := none) (rs := [some (.no), some (.no)]) (kt := [1, 2, 3, 4, 5, 82, 83, 84]) (ko := [1]) (T' := [(1, .int .i64 n1), (2, .fn 152 []), (3, .fn 150 []), (4, .int .i64 r_20_10), (5, .ra 1 0), (82, .sl (List.map GTerm_S t0.fKids)), (83, .int .i64 (t0.fKids.length : Int)), (84, .int .i64 (wr (w_24 + 1)))]) (O' := [(1, .box [.int .i64 t0.fOp, .int .i64 t0.fN, .sl (List.map I t0.fType), .sl (List.map GTerm_S t0.fKids)])]) (by kernel_rfl) trivial (by kernel_rfl) (by kernel_rfl) ?_
        refine loopQ_norm ?_
        exact (impl_check_Kimpl_writtenSize_c1_Kimpl_isWrittenType_l0_ih _ _ h c hc)
    · refine Wp.condF (b := (decide (w_24 < (t0.fKids.length : Int)))) (by kernel_rfl) (by kernel_rfl) hb_25 ?_
      refine Wp.exitN (i := 1) (by kernel_rfl) ?_
      refine seqQ_exit ?_
      refine loopQ_exit ?_
      obtain rfl := Option.some.inj h
      exact Into.view (fun a w hv => SRx.renL [] hv (by kernel_rfl) (by kernel_rfl) (by kernel_rfl))
theorem impl_check_Kimpl_writtenSize_c1_Kimpl_isWrittenType_s : ∀ p r, impl_check_Kimpl_writtenSize_c1_Kimpl_isWrittenType p = some r → M_impl_check_Kimpl_writtenSize_c1_Kimpl_isWrittenType p r := impl_check_Kimpl_writtenSize_c1_Kimpl_isWrittenType_all.1
theorem impl_check_Kimpl_writtenSize_c1_Kimpl_isWrittenType_l0_s : ∀ p r, impl_check_Kimpl_writtenSize_c1_Kimpl_isWrittenType_l0 p = some r → M_impl_check_Kimpl_writtenSize_c1_Kimpl_isWrittenType_l0 p r := impl_check_Kimpl_writtenSize_c1_Kimpl_isWrittenType_all.2
def impl_writtenSize (t0 : GTerm) : Option (Int) :=
    (impl_check_Kimpl_writtenSize_c1_Kimpl_isWrittenType (t0, 8, 0)) >>= fun r_1_1 =>
    some r_1_1
def M_impl_writtenSize (t0 : GTerm) (r : Int) : Prop :=
  FnSound Try.prog 110 [.agg [.int .i64 t0.fOp, .int .i64 t0.fN, .sl (List.map I t0.fType), .sl (List.map GTerm_S t0.fKids)]] (.int .i64 r) []
theorem impl_writtenSize_s : ∀ p r, impl_writtenSize p = some r → M_impl_writtenSize p r := by
  rintro t0 r h
  unfold impl_writtenSize at h
  show FnSound Try.prog 110 [.agg [.int .i64 t0.fOp, .int .i64 t0.fN, .sl (List.map I t0.fType), .sl (List.map GTerm_S t0.fKids)]] (.int .i64 r) []
  refine FnSound.body0 tiok (fn := Try.f110) (code := B110) (by kernel_rfl) (by kernel_rfl) (by kernel_rfl) (by kernel_rfl) (nt := 5) (by kernel_rfl) (by kernel_rfl) (T := [(0, .agg [.int .i64 t0.fOp, .int .i64 t0.fN, .sl (List.map I t0.fType), .sl (List.map GTerm_S t0.fKids)])]) (O := []) (by kernel_rfl) (by kernel_rfl) (fun c hc => ?_)
  refine Wp.seqN (by kernel_rfl) ?_
  refine Wp.reg tiok mix hc (by kernel_rfl) (ah := none) (rs := [some (.new 1), some (.no)]) (kt := [1]) (ko := [1]) (T' := [(1, .ra 1 0)]) (O' := [(1, .box [.int .i64 t0.fOp, .int .i64 t0.fN, .sl (List.map I t0.fType), .sl (List.map GTerm_S t0.fKids)])]) (by kernel_rfl) trivial (by kernel_rfl) (by kernel_rfl) ?_
  refine seqQ_norm ?_
  refine Wp.seqN (by kernel_rfl) ?_
  obtain ⟨r_1_1, hr_1_1, h⟩ := bsome h
  refine Wp.reg tiok mix hc (by kernel_rfl) (ah := none) (rs := [some (.no), some (.call (.int .i64 r_1_1) [] 1), some (.no)]) (kt := [2]) (ko := []) (T' := [(2, .int .i64 r_1_1)]) (O' := []) (by kernel_rfl) (And.intro (impl_check_Kimpl_writtenSize_c1_Kimpl_isWrittenType_s _ _ hr_1_1) (And.intro bod_142 (And.intro (Or.inl rfl : ([] : List Nat) = [] ∨ noSh (.int .i64 r_1_1) = true) trivial))) (by kernel_rfl) (by kernel_rfl) ?_
  refine seqQ_norm ?_
  refine Wp.retN (by kernel_rfl) ?_
  obtain rfl := Option.some.inj h
  exact RetQ.ret (fl := [true]) (by kernel_rfl)
def impl_IsWritten (t0 : GTerm) : Option (Bool) :=
    (impl_writtenSize t0) >>= fun r_1_1 =>
    some (decide (r_1_1 ≤ 400))
def M_impl_IsWritten (t0 : GTerm) (r : Bool) : Prop :=
  FnSound Try.prog 60 [.agg [.int .i64 t0.fOp, .int .i64 t0.fN, .sl (List.map I t0.fType), .sl (List.map GTerm_S t0.fKids)]] (.bool r) []
theorem impl_IsWritten_s : ∀ p r, impl_IsWritten p = some r → M_impl_IsWritten p r := by
  rintro t0 r h
  unfold impl_IsWritten at h
  show FnSound Try.prog 60 [.agg [.int .i64 t0.fOp, .int .i64 t0.fN, .sl (List.map I t0.fType), .sl (List.map GTerm_S t0.fKids)]] (.bool r) []
  refine FnSound.body0 tiok (fn := Try.f60) (code := B60) (by kernel_rfl) (by kernel_rfl) (by kernel_rfl) (by kernel_rfl) (nt := 6) (by kernel_rfl) (by kernel_rfl) (T := [(0, .agg [.int .i64 t0.fOp, .int .i64 t0.fN, .sl (List.map I t0.fType), .sl (List.map GTerm_S t0.fKids)])]) (O := []) (by kernel_rfl) (by kernel_rfl) (fun c hc => ?_)
  refine Wp.seqN (by kernel_rfl) ?_
  refine Wp.reg tiok mix hc (by kernel_rfl) (ah := none) (rs := [some (.new 1), some (.no)]) (kt := [1]) (ko := [1]) (T' := [(1, .ra 1 0)]) (O' := [(1, .box [.int .i64 t0.fOp, .int .i64 t0.fN, .sl (List.map I t0.fType), .sl (List.map GTerm_S t0.fKids)])]) (by kernel_rfl) trivial (by kernel_rfl) (by kernel_rfl) ?_
  refine seqQ_norm ?_
  refine Wp.seqN (by kernel_rfl) ?_
  obtain ⟨r_1_1, hr_1_1, h⟩ := bsome h
  refine Wp.reg tiok mix hc (by kernel_rfl) (ah := none) (rs := [some (.no), some (.call (.int .i64 r_1_1) [] 1), some (.no), some (.no)]) (kt := [2]) (ko := []) (T' := [(2, .bool (decide (r_1_1 ≤ 400)))]) (O' := []) (by kernel_rfl) (And.intro (impl_writtenSize_s _ _ hr_1_1) (And.intro bod_110 (And.intro (Or.inl rfl : ([] : List Nat) = [] ∨ noSh (.int .i64 r_1_1) = true) trivial))) (by kernel_rfl) (by kernel_rfl) ?_
  refine seqQ_norm ?_
  refine Wp.retN (by kernel_rfl) ?_
  obtain rfl := Option.some.inj h
  exact RetQ.ret (fl := [true]) (by kernel_rfl)
def impl_openCode (c0 : Int) : Option (Bool) :=
    (
      if (c0 == 35) = true then
        some (true)
      else
        some ((c0 == 36))
    ) >>= fun v_1 =>
    some v_1
def M_impl_openCode (c0 : Int) (r : Bool) : Prop :=
  FnSound Try.prog 112 [.int .i64 c0] (.bool r) []
theorem impl_openCode_s : ∀ p r, impl_openCode p = some r → M_impl_openCode p r := by
  rintro c0 r h
  unfold impl_openCode at h
  show FnSound Try.prog 112 [.int .i64 c0] (.bool r) []
  refine FnSound.body0 tiok (fn := Try.f112) (code := B112) (by kernel_rfl) (by kernel_rfl) (by kernel_rfl) (by kernel_rfl) (nt := 9) (by kernel_rfl) (by kernel_rfl) (T := [(0, .int .i64 c0)]) (O := []) (by kernel_rfl) (by kernel_rfl) (fun c hc => ?_)
  refine Wp.seqN (by kernel_rfl) ?_
  refine Wp.reg tiok mix hc (by kernel_rfl) (ah := none) (rs := [some (.no)]) (kt := [0]) (ko := []) (T' := [(0, .int .i64 c0)]) (O' := []) (by kernel_rfl) trivial (by kernel_rfl) (by kernel_rfl) ?_
  refine seqQ_norm ?_
  refine Wp.seqN (by kernel_rfl) ?_
  obtain ⟨v_1, hj_2, h⟩ := bsome h
  refine Wp.into (x := .normal) (mkS [(2, .bool v_1)] []) ?_ ?_
  · replace h := hj_2
    rcases itesome h with ⟨hb_1_0, h⟩ | ⟨hb_1_0, h⟩
    · refine Wp.reg tiok mix hc (by kernel_rfl) (ah := none) (rs := [some (.no), some (.no), some (.no), none, none, some (.cond true), some (.no)]) (kt := [2]) (ko := []) (T' := [(2, .bool true)]) (O' := []) (by kernel_rfl) (And.intro (neF hb_1_0 : (c0 == 35) ≠ false) (And.intro (neF hb_1_0 : (c0 == 35) ≠ false) (And.intro hb_1_0 trivial))) (by kernel_rfl) (by kernel_rfl) ?_
      obtain rfl := Option.some.inj h
      exact Into.mk
    · refine Wp.reg tiok mix hc (by kernel_rfl) (ah := none) (rs := [some (.no), some (.no), some (.no), some (.no), some (.no), some (.cond false), some (.no)]) (kt := [2]) (ko := []) (T' := [(2, .bool (c0 == 36))]) (O' := []) (by kernel_rfl) (And.intro hb_1_0 (And.intro hb_1_0 (And.intro hb_1_0 trivial))) (by kernel_rfl) (by kernel_rfl) ?_
      obtain rfl := Option.some.inj h
      exact Into.mk
  · clear hj_2
    refine seqQ_norm ?_
    refine Wp.retN (by kernel_rfl) ?_
    obtain rfl := Option.some.inj h
    exact RetQ.ret (fl := [true]) (by kernel_rfl)
def impl_countOpen_F1 (c : Ctx) (t0 : GTerm) : Int → Exit → AState → Prop
  | n_16 => Into c (.exit 0) (mkS [(1, .ra 1 0), (3, .int .i64 n_16)] [(1, .box [.int .i64 t0.fOp, .int .i64 t0.fN, .sl (List.map I t0.fType), .sl (List.map GTerm_S t0.fKids)])])
def impl_countOpen_F2 (c : Ctx) : Int → Exit → AState → Prop
  | n_22 => Into c (.exit 2) (mkS [(3, .int .i64 n_22)] [])
def impl_countOpen_l0 (p : GTerm × Int × Int) : Option (Int) :=
  match p with
  | (t0, n_10, w_11) =>
    if (decide (w_11 < (t0.fType.length : Int))) = true then
      (idx t0.fType w_11) >>= fun e_7_0 =>
      (impl_openCode e_7_0) >>= fun r_8_1 =>
      (
        if r_8_1 = true then
          some ((wr (n_10 + 1)))
        else
          some (n_10)
      ) >>= fun n_14 =>
      impl_countOpen_l0 (t0, n_14, (wr (w_11 + 1)))
    else
      some (n_10)
  partial_fixpoint
def M_impl_countOpen_l0 (p : GTerm × Int × Int) (fl : Int) : Prop :=
  match p with
  | (t0, n_10, w_11) => ∀ c : Ctx, c.nt = 50 → WpL Try.prog c (cl (cl (cr (cl (cr (cr (cr B61))))))) (impl_countOpen_F1 c t0 fl) (mkS [(1, .ra 1 0), (3, .int .i64 n_10), (26, .sl (List.map I t0.fType)), (27, .int .i64 (t0.fType.length : Int)), (28, .int .i64 w_11)] [(1, .box [.int .i64 t0.fOp, .int .i64 t0.fN, .sl (List.map I t0.fType), .sl (List.map GTerm_S t0.fKids)])])
theorem impl_countOpen_l0_s : ∀ p r, impl_countOpen_l0 p = some r → M_impl_countOpen_l0 p r := by
  refine impl_countOpen_l0.partial_correctness M_impl_countOpen_l0 ?_
  rintro impl_countOpen_l0_f impl_countOpen_l0_ih ⟨t0, n_10, w_11⟩ r h
  intro c hc
  show WpL Try.prog c (cl (cl (cr (cl (cr (cr (cr B61))))))) (impl_countOpen_F1 c t0 r) (mkS [(1, .ra 1 0), (3, .int .i64 n_10), (26, .sl (List.map I t0.fType)), (27, .int .i64 (t0.fType.length : Int)), (28, .int .i64 w_11)] [(1, .box [.int .i64 t0.fOp, .int .i64 t0.fN, .sl (List.map I t0.fType), .sl (List.map GTerm_S t0.fKids)])])
  refine WpL.step ?_
  refine Wp.seqN (by kernel_rfl) ?_
  refine Wp.reg tiok mix hc (by kernel_rfl) (ah := none) (rs := [some (.no)]) (kt := [1, 3, 26, 27, 28, 29]) (ko := [1]) (T' := [(1, .ra 1 0), (3, .int .i64 n_10), (26, .sl (List.map I t0.fType)), (27, .int .i64 (t0.fType.length : Int)), (28, .int .i64 w_11), (29, .bool (decide (w_11 < (t0.fType.length : Int))))]) (O' := [(1, .box [.int .i64 t0.fOp, .int .i64 t0.fN, .sl (List.map I t0.fType), .sl (List.map GTerm_S t0.fKids)])]) (by kernel_rfl) trivial (by kernel_rfl) (by kernel_rfl) ?_
  refine seqQ_norm ?_
  refine Wp.seqN (by kernel_rfl) ?_
  rcases itesome h with ⟨hb_12, h⟩ | ⟨hb_12, h⟩
  · refine Wp.condT (b := (decide (w_11 < (t0.fType.length : Int)))) (by kernel_rfl) (by kernel_rfl) hb_12 ?_
    refine Wp.skipN (by kernel_rfl) ?_
    refine seqQ_norm ?_
    refine Wp.seqN (by kernel_rfl) ?_
    refine Wp.blockN (i := 1) (by kernel_rfl) ?_
    refine Wp.seqN (by kernel_rfl) ?_
    obtain ⟨e_7_0, hi_7_0, h⟩ := bsome h
    refine Wp.reg tiok mix hc (by kernel_rfl) (ah := none) (rs := [some (.el (.int .i64 e_7_0)), some (.no), some (.no)]) (kt := [1, 3, 7, 26, 27, 28]) (ko := [1]) (T' := [(1, .ra 1 0), (3, .int .i64 n_10), (7, .int .i64 e_7_0), (26, .sl (List.map I t0.fType)), (27, .int .i64 (t0.fType.length : Int)), (28, .int .i64 w_11)]) (O' := [(1, .box [.int .i64 t0.fOp, .int .i64 t0.fN, .sl (List.map I t0.fType), .sl (List.map GTerm_S t0.fKids)])]) (by kernel_rfl) (And.intro (idx_sl (enc := I) (x := .int .i64 e_7_0) hi_7_0 (eq_I e_7_0)) trivial) (by kernel_rfl) (by kernel_rfl) ?_
    refine seqQ_norm ?_
    refine Wp.seqN (by kernel_rfl) ?_
    obtain ⟨r_8_1, hr_8_1, h⟩ := bsome h
    refine Wp.reg tiok mix hc (by kernel_rfl) (ah := none) (rs := [some (.no), some (.call (.bool r_8_1) [] 1)]) (kt := [1, 3, 26, 27, 28, 33]) (ko := [1]) (T' := [(1, .ra 1 0), (3, .int .i64 n_10), (26, .sl (List.map I t0.fType)), (27, .int .i64 (t0.fType.length : Int)), (28, .int .i64 w_11), (33, .bool r_8_1)]) (O' := [(1, .box [.int .i64 t0.fOp, .int .i64 t0.fN, .sl (List.map I t0.fType), .sl (List.map GTerm_S t0.fKids)])]) (by kernel_rfl) (And.intro (impl_openCode_s _ _ hr_8_1) (And.intro bod_112 (And.intro (Or.inl rfl : ([] : List Nat) = [] ∨ noSh (.bool r_8_1) = true) trivial))) (by kernel_rfl) (by kernel_rfl) ?_
    refine seqQ_norm ?_
    obtain ⟨n_14, hj_15, h⟩ := bsome h
    refine Wp.into (x := .normal) (mkS [(1, .ra 1 0), (3, .int .i64 n_14), (26, .sl (List.map I t0.fType)), (27, .int .i64 (t0.fType.length : Int)), (28, .int .i64 w_11)] [(1, .box [.int .i64 t0.fOp, .int .i64 t0.fN, .sl (List.map I t0.fType), .sl (List.map GTerm_S t0.fKids)])]) ?_ ?_
    · replace h := hj_15
      rcases itesome h with ⟨hb_13, h⟩ | ⟨hb_13, h⟩
      · refine Wp.condT (b := r_8_1) (by kernel_rfl) (by kernel_rfl) hb_13 ?_
        refine Wp.reg tiok mix hc (by kernel_rfl) (ah := none) (rs := [some (.no), some (.no), some (.no)]) (kt := [1, 3, 26, 27, 28]) (ko := [1]) (T' := [(1, .ra 1 0), (3, .int .i64 (wr (n_10 + 1))), (26, .sl (List.map I t0.fType)), (27, .int .i64 (t0.fType.length : Int)), (28, .int .i64 w_11)]) (O' := [(1, .box [.int .i64 t0.fOp, .int .i64 t0.fN, .sl (List.map I t0.fType), .sl (List.map GTerm_S t0.fKids)])]) (by kernel_rfl) trivial (by kernel_rfl) (by kernel_rfl) ?_
        obtain rfl := Option.some.inj h
        exact Into.mk
      · refine Wp.condF (b := r_8_1) (by kernel_rfl) (by kernel_rfl) hb_13 ?_
        refine Wp.skipN (by kernel_rfl) ?_
        obtain rfl := Option.some.inj h
        exact Into.view (fun a w hv => SRx.renL [] hv (by kernel_rfl) (by kernel_rfl) (by kernel_rfl))
    · clear hj_15
      refine blockQ_norm ?_
      refine seqQ_norm ?_
      refine Wp.reg tiok mix hc (by kernel_rfl) (ah := none) (rs := [some (.no), some (.no)]) (kt := [1, 3, 26, 27, 28]) (ko := [1]) (T' := [(1, .ra 1 0), (3, .int .i64 n_14), (26, .sl (List.map I t0.fType)), (27, .int .i64 (t0.fType.length : Int)), (28, .int .i64 (wr (w_11 + 1)))]) (O' := [(1, .box [.int .i64 t0.fOp, .int .i64 t0.fN, .sl (List.map I t0.fType), .sl (List.map GTerm_S t0.fKids)])]) (by kernel_rfl) trivial (by kernel_rfl) (by kernel_rfl) ?_
      refine loopQ_norm ?_
      exact (impl_countOpen_l0_ih _ _ h c hc)
  · refine Wp.condF (b := (decide (w_11 < (t0.fType.length : Int)))) (by kernel_rfl) (by kernel_rfl) hb_12 ?_
    refine Wp.exitN (i := 0) (by kernel_rfl) ?_
    refine seqQ_exit ?_
    refine loopQ_exit ?_
    obtain rfl := Option.some.inj h
    exact Into.view (fun a w hv => SRx.renL [] hv (by kernel_rfl) (by kernel_rfl) (by kernel_rfl))
mutual
def impl_countOpen (t0 : GTerm) : Option (Int) :=
    (impl_formOf t0.fOp) >>= fun (r_2_2_0, r_2_2_1) =>
    (
      if r_2_2_0.fgrade = true then
        some ((decide (t0.fN < 0)))
      else
        some (false)
    ) >>= fun v_1 =>
    (
      if v_1 = true then
        some ((wr (0 + 1)))
      else
        some (0)
    ) >>= fun n_4 =>
    (impl_countOpen_l0 (t0, n_4, 0)) >>= fun n_16 =>
    (impl_countOpen_l1 (t0, n_16, 0)) >>= fun n_22 =>
    some n_22
  partial_fixpoint
def impl_countOpen_l1 (p : GTerm × Int × Int) : Option (Int) :=
  match p with
  | (t0, n_19, w_20) =>
    if (decide (w_20 < (t0.fKids.length : Int))) = true then
      (idx t0.fKids w_20) >>= fun e_13_0 =>
      (impl_countOpen e_13_0) >>= fun r_14_2 =>
      impl_countOpen_l1 (t0, (wr (n_19 + r_14_2)), (wr (w_20 + 1)))
    else
      some (n_19)
  partial_fixpoint
end
def M_impl_countOpen (t0 : GTerm) (r : Int) : Prop :=
  FnSound Try.prog 61 [.agg [.int .i64 t0.fOp, .int .i64 t0.fN, .sl (List.map I t0.fType), .sl (List.map GTerm_S t0.fKids)]] (.int .i64 r) []
def M_impl_countOpen_l1 (p : GTerm × Int × Int) (fl : Int) : Prop :=
  match p with
  | (t0, n_19, w_20) => ∀ c : Ctx, c.nt = 50 → WpL Try.prog c (cl (cl (cr (cl (cr (cr (cr (cr B61)))))))) (impl_countOpen_F2 c fl) (mkS [(3, .int .i64 n_19), (38, .sl (List.map GTerm_S t0.fKids)), (39, .int .i64 (t0.fKids.length : Int)), (40, .int .i64 w_20)] [])
theorem impl_countOpen_all : (∀ p r, impl_countOpen p = some r → M_impl_countOpen p r) ∧ (∀ p r, impl_countOpen_l1 p = some r → M_impl_countOpen_l1 p r) := by
  refine impl_countOpen.mutual_partial_correctness M_impl_countOpen M_impl_countOpen_l1 ?_ ?_
  · rintro impl_countOpen_l1_f impl_countOpen_l1_ih t0 r h
    show FnSound Try.prog 61 [.agg [.int .i64 t0.fOp, .int .i64 t0.fN, .sl (List.map I t0.fType), .sl (List.map GTerm_S t0.fKids)]] (.int .i64 r) []
    refine FnSound.body0 tiok (fn := Try.f61) (code := B61) (by kernel_rfl) (by kernel_rfl) (by kernel_rfl) (by kernel_rfl) (nt := 50) (by kernel_rfl) (by kernel_rfl) (T := [(0, .agg [.int .i64 t0.fOp, .int .i64 t0.fN, .sl (List.map I t0.fType), .sl (List.map GTerm_S t0.fKids)])]) (O := []) (by kernel_rfl) (by kernel_rfl) (fun c hc => ?_)
    refine Wp.seqN (by kernel_rfl) ?_
    refine Wp.reg tiok mix hc (by kernel_rfl) (ah := none) (rs := [some (.new 1), some (.no)]) (kt := [1]) (ko := [1]) (T' := [(1, .ra 1 0)]) (O' := [(1, .box [.int .i64 t0.fOp, .int .i64 t0.fN, .sl (List.map I t0.fType), .sl (List.map GTerm_S t0.fKids)])]) (by kernel_rfl) trivial (by kernel_rfl) (by kernel_rfl) ?_
    refine seqQ_norm ?_
    refine Wp.seqN (by kernel_rfl) ?_
    refine Wp.reg tiok mix hc (by kernel_rfl) (ah := none) (rs := [some (.no)]) (kt := [1, 3]) (ko := [1]) (T' := [(1, .ra 1 0), (3, .int .i64 0)]) (O' := [(1, .box [.int .i64 t0.fOp, .int .i64 t0.fN, .sl (List.map I t0.fType), .sl (List.map GTerm_S t0.fKids)])]) (by kernel_rfl) trivial (by kernel_rfl) (by kernel_rfl) ?_
    refine seqQ_norm ?_
    refine Wp.seqN (by kernel_rfl) ?_
    refine Wp.seqN (by kernel_rfl) ?_
    obtain ⟨⟨r_2_2_0, r_2_2_1⟩, hr_2_2, h⟩ := bsome h
    refine Wp.reg tiok mix hc (by kernel_rfl) (ah := none) (rs := [some (.no), some (.no), some (.call (.tup [.agg [.str r_2_2_0.fword, .int .i64 r_2_2_0.fkids, .bool r_2_2_0.fgrade, .bool r_2_2_0.ftyped], .bool r_2_2_1]) [] 1), some (.no), some (.no), some (.no), some (.new 2), some (.no), some (.no)]) (kt := [1, 3, 4]) (ko := [1, 2]) (T' := [(1, .ra 1 0), (3, .int .i64 0), (4, .ra 2 0)]) (O' := [(1, .box [.int .i64 t0.fOp, .int .i64 t0.fN, .sl (List.map I t0.fType), .sl (List.map GTerm_S t0.fKids)]), (2, .box [.str r_2_2_0.fword, .int .i64 r_2_2_0.fkids, .bool r_2_2_0.fgrade, .bool r_2_2_0.ftyped])]) (by kernel_rfl) (And.intro (impl_formOf_s _ _ hr_2_2) (And.intro bod_111 (And.intro (Or.inl rfl : ([] : List Nat) = [] ∨ noSh (.tup [.agg [.str r_2_2_0.fword, .int .i64 r_2_2_0.fkids, .bool r_2_2_0.fgrade, .bool r_2_2_0.ftyped], .bool r_2_2_1]) = true) trivial))) (by kernel_rfl) (by kernel_rfl) ?_
    refine seqQ_norm ?_
    refine Wp.seqN (by kernel_rfl) ?_
    obtain ⟨v_1, hj_2, h⟩ := bsome h
    refine Wp.into (x := .normal) (mkS [(1, .ra 1 0), (3, .int .i64 0), (22, .bool v_1)] [(1, .box [.int .i64 t0.fOp, .int .i64 t0.fN, .sl (List.map I t0.fType), .sl (List.map GTerm_S t0.fKids)])]) ?_ ?_
    · replace h := hj_2
      rcases itesome h with ⟨hb_3_0, h⟩ | ⟨hb_3_0, h⟩
      · refine Wp.reg tiok mix hc (by kernel_rfl) (ah := none) (rs := [some (.no), some (.no), some (.no), some (.no), some (.no), some (.no), some (.cond true)]) (kt := [1, 3, 22]) (ko := [1]) (T' := [(1, .ra 1 0), (3, .int .i64 0), (22, .bool (decide (t0.fN < 0)))]) (O' := [(1, .box [.int .i64 t0.fOp, .int .i64 t0.fN, .sl (List.map I t0.fType), .sl (List.map GTerm_S t0.fKids)])]) (by kernel_rfl) (And.intro hb_3_0 (And.intro hb_3_0 (And.intro hb_3_0 (And.intro hb_3_0 trivial)))) (by kernel_rfl) (by kernel_rfl) ?_
        obtain rfl := Option.some.inj h
        exact Into.mk
      · refine Wp.reg tiok mix hc (by kernel_rfl) (ah := none) (rs := [some (.no), some (.no), some (.no), none, none, none, some (.cond false)]) (kt := [1, 3, 22]) (ko := [1]) (T' := [(1, .ra 1 0), (3, .int .i64 0), (22, .bool false)]) (O' := [(1, .box [.int .i64 t0.fOp, .int .i64 t0.fN, .sl (List.map I t0.fType), .sl (List.map GTerm_S t0.fKids)])]) (by kernel_rfl) (And.intro (neT hb_3_0 : r_2_2_0.fgrade ≠ true) (And.intro (neT hb_3_0 : r_2_2_0.fgrade ≠ true) (And.intro (neT hb_3_0 : r_2_2_0.fgrade ≠ true) (And.intro hb_3_0 trivial)))) (by kernel_rfl) (by kernel_rfl) ?_
        obtain rfl := Option.some.inj h
        exact Into.mk
    · clear hj_2
      refine seqQ_norm ?_
      obtain ⟨n_4, hj_5, h⟩ := bsome h
      refine Wp.into (x := .normal) (mkS [(1, .ra 1 0), (3, .int .i64 n_4)] [(1, .box [.int .i64 t0.fOp, .int .i64 t0.fN, .sl (List.map I t0.fType), .sl (List.map GTerm_S t0.fKids)])]) ?_ ?_
      · replace h := hj_5
        rcases itesome h with ⟨hb_3, h⟩ | ⟨hb_3, h⟩
        · refine Wp.condT (b := v_1) (by kernel_rfl) (by kernel_rfl) hb_3 ?_
          refine Wp.reg tiok mix hc (by kernel_rfl) (ah := none) (rs := [some (.no), some (.no), some (.no)]) (kt := [1, 3]) (ko := [1]) (T' := [(1, .ra 1 0), (3, .int .i64 (wr (0 + 1)))]) (O' := [(1, .box [.int .i64 t0.fOp, .int .i64 t0.fN, .sl (List.map I t0.fType), .sl (List.map GTerm_S t0.fKids)])]) (by kernel_rfl) trivial (by kernel_rfl) (by kernel_rfl) ?_
          obtain rfl := Option.some.inj h
          exact Into.mk
        · refine Wp.condF (b := v_1) (by kernel_rfl) (by kernel_rfl) hb_3 ?_
          refine Wp.skipN (by kernel_rfl) ?_
          obtain rfl := Option.some.inj h
          exact Into.view (fun a w hv => SRx.renL [] hv (by kernel_rfl) (by kernel_rfl) (by kernel_rfl))
      · clear hj_5
        refine seqQ_norm ?_
        refine Wp.seqN (by kernel_rfl) ?_
        refine Wp.seqN (by kernel_rfl) ?_
        refine Wp.reg tiok mix hc (by kernel_rfl) (ah := none) (rs := [some (.no), some (.no), some (.eqv (.no) ⟨[(27, .int .i64 (t0.fType.length : Int))], [], []⟩), some (.no)]) (kt := [1, 3, 26, 27, 28]) (ko := [1]) (T' := [(1, .ra 1 0), (3, .int .i64 n_4), (26, .sl (List.map I t0.fType)), (27, .int .i64 (t0.fType.length : Int)), (28, .int .i64 0)]) (O' := [(1, .box [.int .i64 t0.fOp, .int .i64 t0.fN, .sl (List.map I t0.fType), .sl (List.map GTerm_S t0.fKids)])]) (by kernel_rfl) (And.intro (lenT (d := 27) I t0.fType) trivial) (by kernel_rfl) (by kernel_rfl) ?_
        refine seqQ_norm ?_
        refine Wp.blockN (i := 0) (by kernel_rfl) ?_
        obtain ⟨n_16, hl_17, h⟩ := bsome h
        have hL := impl_countOpen_l0_s _ _ hl_17 c hc
        refine Wp.loopN (by kernel_rfl) ?_
        · refine WpL.into (e := (.exit 0)) (mkS [(1, .ra 1 0), (3, .int .i64 n_16)] [(1, .box [.int .i64 t0.fOp, .int .i64 t0.fN, .sl (List.map I t0.fType), .sl (List.map GTerm_S t0.fKids)])]) hL ?_
          refine blockQ_hit ?_
          refine seqQ_norm ?_
          refine Wp.seqN (by kernel_rfl) ?_
          refine Wp.seqN (by kernel_rfl) ?_
          refine Wp.reg tiok mix hc (by kernel_rfl) (ah := none) (rs := [some (.no), some (.no), some (.eqv (.no) ⟨[(39, .int .i64 (t0.fKids.length : Int))], [], []⟩), some (.no)]) (kt := [3, 38, 39, 40]) (ko := []) (T' := [(3, .int .i64 n_16), (38, .sl (List.map GTerm_S t0.fKids)), (39, .int .i64 (t0.fKids.length : Int)), (40, .int .i64 0)]) (O' := []) (by kernel_rfl) (And.intro (lenT (d := 39) GTerm_S t0.fKids) trivial) (by kernel_rfl) (by kernel_rfl) ?_
          refine seqQ_norm ?_
          refine Wp.blockN (i := 2) (by kernel_rfl) ?_
          obtain ⟨n_22, hl_23, h⟩ := bsome h
          have hL := impl_countOpen_l1_ih _ _ hl_23 c hc
          refine Wp.loopN (by kernel_rfl) ?_
          · refine WpL.into (e := (.exit 2)) (mkS [(3, .int .i64 n_22)] []) hL ?_
            refine blockQ_hit ?_
            refine seqQ_norm ?_
            refine Wp.seqN (by kernel_rfl) ?_
            refine Wp.reg tiok mix hc (by kernel_rfl) (ah := none) (rs := [some (.no), some (.no)]) (kt := [2]) (ko := []) (T' := [(2, .int .i64 n_22)]) (O' := []) (by kernel_rfl) trivial (by kernel_rfl) (by kernel_rfl) ?_
            refine seqQ_norm ?_
            refine Wp.retN (by kernel_rfl) ?_
            obtain rfl := Option.some.inj h
            exact RetQ.ret (fl := [true]) (by kernel_rfl)
  · rintro impl_countOpen_f impl_countOpen_l1_f impl_countOpen_ih impl_countOpen_l1_ih ⟨t0, n_19, w_20⟩ r h
    intro c hc
    show WpL Try.prog c (cl (cl (cr (cl (cr (cr (cr (cr B61)))))))) (impl_countOpen_F2 c r) (mkS [(3, .int .i64 n_19), (38, .sl (List.map GTerm_S t0.fKids)), (39, .int .i64 (t0.fKids.length : Int)), (40, .int .i64 w_20)] [])
    refine WpL.step ?_
    refine Wp.seqN (by kernel_rfl) ?_
    refine Wp.reg tiok mix hc (by kernel_rfl) (ah := none) (rs := [some (.no)]) (kt := [3, 38, 39, 40, 41]) (ko := []) (T' := [(3, .int .i64 n_19), (38, .sl (List.map GTerm_S t0.fKids)), (39, .int .i64 (t0.fKids.length : Int)), (40, .int .i64 w_20), (41, .bool (decide (w_20 < (t0.fKids.length : Int))))]) (O' := []) (by kernel_rfl) trivial (by kernel_rfl) (by kernel_rfl) ?_
    refine seqQ_norm ?_
    refine Wp.seqN (by kernel_rfl) ?_
    rcases itesome h with ⟨hb_21, h⟩ | ⟨hb_21, h⟩
    · refine Wp.condT (b := (decide (w_20 < (t0.fKids.length : Int)))) (by kernel_rfl) (by kernel_rfl) hb_21 ?_
      refine Wp.skipN (by kernel_rfl) ?_
      refine seqQ_norm ?_
      refine Wp.seqN (by kernel_rfl) ?_
      refine Wp.blockN (i := 3) (by kernel_rfl) ?_
      refine Wp.seqN (by kernel_rfl) ?_
      obtain ⟨e_13_0, hi_13_0, h⟩ := bsome h
      refine Wp.reg tiok mix hc (by kernel_rfl) (ah := none) (rs := [some (.el (.agg [.int .i64 e_13_0.fOp, .int .i64 e_13_0.fN, .sl (List.map I e_13_0.fType), .sl (List.map GTerm_S e_13_0.fKids)])), some (.no), some (.new 4), some (.no)]) (kt := [3, 9, 38, 39, 40]) (ko := [4]) (T' := [(3, .int .i64 n_19), (9, .ra 4 0), (38, .sl (List.map GTerm_S t0.fKids)), (39, .int .i64 (t0.fKids.length : Int)), (40, .int .i64 w_20)]) (O' := [(4, .box [.int .i64 e_13_0.fOp, .int .i64 e_13_0.fN, .sl (List.map I e_13_0.fType), .sl (List.map GTerm_S e_13_0.fKids)])]) (by kernel_rfl) (And.intro (idx_sl (enc := GTerm_S) (x := .agg [.int .i64 e_13_0.fOp, .int .i64 e_13_0.fN, .sl (List.map I e_13_0.fType), .sl (List.map GTerm_S e_13_0.fKids)]) hi_13_0 (eq_GTerm_S e_13_0)) trivial) (by kernel_rfl) (by kernel_rfl) ?_
      refine seqQ_norm ?_
      obtain ⟨r_14_2, hr_14_2, h⟩ := bsome h
      refine Wp.reg tiok mix hc (by kernel_rfl) (ah := none) (rs := [some (.no), some (.no), some (.call (.int .i64 r_14_2) [] 1), some (.no), some (.no)]) (kt := [3, 38, 39, 40]) (ko := []) (T' := [(3, .int .i64 (wr (n_19 + r_14_2))), (38, .sl (List.map GTerm_S t0.fKids)), (39, .int .i64 (t0.fKids.length : Int)), (40, .int .i64 w_20)]) (O' := []) (by kernel_rfl) (And.intro (impl_countOpen_ih _ _ hr_14_2) (And.intro bod_61 (And.intro (Or.inl rfl : ([] : List Nat) = [] ∨ noSh (.int .i64 r_14_2) = true) trivial))) (by kernel_rfl) (by kernel_rfl) ?_
      refine blockQ_norm ?_
      refine seqQ_norm ?_
      refine Wp.reg tiok mix hc (by kernel_rfl) (ah := none) (rs := [some (.no), some (.no)]) (kt := [3, 38, 39, 40]) (ko := []) (T' := [(3, .int .i64 (wr (n_19 + r_14_2))), (38, .sl (List.map GTerm_S t0.fKids)), (39, .int .i64 (t0.fKids.length : Int)), (40, .int .i64 (wr (w_20 + 1)))]) (O' := []) (by kernel_rfl) trivial (by kernel_rfl) (by kernel_rfl) ?_
      refine loopQ_norm ?_
      exact (impl_countOpen_l1_ih _ _ h c hc)
    · refine Wp.condF (b := (decide (w_20 < (t0.fKids.length : Int)))) (by kernel_rfl) (by kernel_rfl) hb_21 ?_
      refine Wp.exitN (i := 2) (by kernel_rfl) ?_
      refine seqQ_exit ?_
      refine loopQ_exit ?_
      obtain rfl := Option.some.inj h
      exact Into.view (fun a w hv => SRx.renL [] hv (by kernel_rfl) (by kernel_rfl) (by kernel_rfl))
theorem impl_countOpen_s : ∀ p r, impl_countOpen p = some r → M_impl_countOpen p r := impl_countOpen_all.1
theorem impl_countOpen_l1_s : ∀ p r, impl_countOpen_l1 p = some r → M_impl_countOpen_l1 p r := impl_countOpen_all.2
def impl_FillOpen_c1 (g0 : Int) : Option (Bool) :=
    (impl_within (g0, 0, 15)) >>= fun r_1_1 =>
    some (!r_1_1)
def M_impl_FillOpen_c1 (g0 : Int) (r : Bool) : Prop :=
  FnSound Try.prog 63 [.int .i64 g0] (.bool r) []
theorem impl_FillOpen_c1_s : ∀ p r, impl_FillOpen_c1 p = some r → M_impl_FillOpen_c1 p r := by
  rintro g0 r h
  unfold impl_FillOpen_c1 at h
  show FnSound Try.prog 63 [.int .i64 g0] (.bool r) []
  refine FnSound.body0 tiok (fn := Try.f63) (code := B63) (by kernel_rfl) (by kernel_rfl) (by kernel_rfl) (by kernel_rfl) (nt := 6) (by kernel_rfl) (by kernel_rfl) (T := [(0, .int .i64 g0)]) (O := []) (by kernel_rfl) (by kernel_rfl) (fun c hc => ?_)
  refine Wp.seqN (by kernel_rfl) ?_
  refine Wp.reg tiok mix hc (by kernel_rfl) (ah := none) (rs := [some (.no)]) (kt := [0]) (ko := []) (T' := [(0, .int .i64 g0)]) (O' := []) (by kernel_rfl) trivial (by kernel_rfl) (by kernel_rfl) ?_
  refine seqQ_norm ?_
  refine Wp.seqN (by kernel_rfl) ?_
  obtain ⟨r_1_1, hr_1_1, h⟩ := bsome h
  refine Wp.reg tiok mix hc (by kernel_rfl) (ah := none) (rs := [some (.no), some (.call (.bool r_1_1) [] 1), some (.no), some (.no)]) (kt := [2]) (ko := []) (T' := [(2, .bool (!r_1_1))]) (O' := []) (by kernel_rfl) (And.intro (impl_within_s _ _ hr_1_1) (And.intro bod_64 (And.intro (Or.inl rfl : ([] : List Nat) = [] ∨ noSh (.bool r_1_1) = true) trivial))) (by kernel_rfl) (by kernel_rfl) ?_
  refine seqQ_norm ?_
  refine Wp.retN (by kernel_rfl) ?_
  obtain rfl := Option.some.inj h
  exact RetQ.ret (fl := [true]) (by kernel_rfl)
def slices_IndexFunc_int_Kimpl_FillOpen_c1_F1 (c : Ctx) : (Unit) ⊕ (Int) → Exit → AState → Prop
  | .inl _ => Into c (.exit 0) (mkS [] [])
  | .inr r => RetE TIx Try.f113 [] (.int .i64 r)
def slices_IndexFunc_int_Kimpl_FillOpen_c1_l0 (p : (List Int) × Int) : Option ((Unit) ⊕ (Int)) :=
  match p with
  | (s0, w_3) =>
    if (decide (w_3 < (s0.length : Int))) = true then
      (idx s0 w_3) >>= fun e_4_3 =>
      (impl_FillOpen_c1 e_4_3) >>= fun r_4_5 =>
      if r_4_5 = true then
        some (.inr w_3)
      else
        slices_IndexFunc_int_Kimpl_FillOpen_c1_l0 (s0, (wr (w_3 + 1)))
    else
      some (.inl ())
  partial_fixpoint
def M_slices_IndexFunc_int_Kimpl_FillOpen_c1_l0 (p : (List Int) × Int) (fl : (Unit) ⊕ (Int)) : Prop :=
  match p with
  | (s0, w_3) => ∀ c : Ctx, c.nt = 19 → WpL Try.prog c (cl (cl (cr (cl (cr B113))))) (slices_IndexFunc_int_Kimpl_FillOpen_c1_F1 c fl) (mkS [(0, .sl (List.map I s0)), (1, .fn 63 []), (7, .int .i64 (s0.length : Int)), (8, .int .i64 w_3)] [])
theorem slices_IndexFunc_int_Kimpl_FillOpen_c1_l0_s : ∀ p r, slices_IndexFunc_int_Kimpl_FillOpen_c1_l0 p = some r → M_slices_IndexFunc_int_Kimpl_FillOpen_c1_l0 p r := by
  refine slices_IndexFunc_int_Kimpl_FillOpen_c1_l0.partial_correctness M_slices_IndexFunc_int_Kimpl_FillOpen_c1_l0 ?_
  rintro slices_IndexFunc_int_Kimpl_FillOpen_c1_l0_f slices_IndexFunc_int_Kimpl_FillOpen_c1_l0_ih ⟨s0, w_3⟩ r h
  intro c hc
  show WpL Try.prog c (cl (cl (cr (cl (cr B113))))) (slices_IndexFunc_int_Kimpl_FillOpen_c1_F1 c r) (mkS [(0, .sl (List.map I s0)), (1, .fn 63 []), (7, .int .i64 (s0.length : Int)), (8, .int .i64 w_3)] [])
  refine WpL.step ?_
  refine Wp.seqN (by kernel_rfl) ?_
  refine Wp.reg tiok mix hc (by kernel_rfl) (ah := none) (rs := [some (.no)]) (kt := [0, 1, 7, 8, 9]) (ko := []) (T' := [(0, .sl (List.map I s0)), (1, .fn 63 []), (7, .int .i64 (s0.length : Int)), (8, .int .i64 w_3), (9, .bool (decide (w_3 < (s0.length : Int))))]) (O' := []) (by kernel_rfl) trivial (by kernel_rfl) (by kernel_rfl) ?_
  refine seqQ_norm ?_
  refine Wp.seqN (by kernel_rfl) ?_
  rcases itesome h with ⟨hb_4, h⟩ | ⟨hb_4, h⟩
  · refine Wp.condT (b := (decide (w_3 < (s0.length : Int)))) (by kernel_rfl) (by kernel_rfl) hb_4 ?_
    refine Wp.skipN (by kernel_rfl) ?_
    refine seqQ_norm ?_
    refine Wp.seqN (by kernel_rfl) ?_
    refine Wp.blockN (i := 1) (by kernel_rfl) ?_
    refine Wp.seqN (by kernel_rfl) ?_
    refine Wp.reg tiok mix hc (by kernel_rfl) (ah := none) (rs := [some (.no), some (.no)]) (kt := [0, 1, 5, 7, 8]) (ko := []) (T' := [(0, .sl (List.map I s0)), (1, .fn 63 []), (5, .int .i64 w_3), (7, .int .i64 (s0.length : Int)), (8, .int .i64 w_3)]) (O' := []) (by kernel_rfl) trivial (by kernel_rfl) (by kernel_rfl) ?_
    refine seqQ_norm ?_
    refine Wp.seqN (by kernel_rfl) ?_
    obtain ⟨e_4_3, hi_4_3, h⟩ := bsome h
    obtain ⟨r_4_5, hr_4_5, h⟩ := bsome h
    refine Wp.reg tiok mix hc (by kernel_rfl) (ah := none) (rs := [some (.no), some (.no), some (.no), some (.el (.int .i64 e_4_3)), some (.no), some (.call (.bool r_4_5) [] 1)]) (kt := [0, 1, 5, 7, 8, 16]) (ko := []) (T' := [(0, .sl (List.map I s0)), (1, .fn 63 []), (5, .int .i64 w_3), (7, .int .i64 (s0.length : Int)), (8, .int .i64 w_3), (16, .bool r_4_5)]) (O' := []) (by kernel_rfl) (And.intro (idx_sl (enc := I) (x := .int .i64 e_4_3) hi_4_3 (eq_I e_4_3)) (And.intro (impl_FillOpen_c1_s _ _ hr_4_5) (And.intro bod_63 (And.intro (Or.inl rfl : ([] : List Nat) = [] ∨ noSh (.bool r_4_5) = true) trivial)))) (by kernel_rfl) (by kernel_rfl) ?_
    refine seqQ_norm ?_
    rcases itesome h with ⟨hb_5, h⟩ | ⟨hb_5, h⟩
    · refine Wp.condT (b := r_4_5) (by kernel_rfl) (by kernel_rfl) hb_5 ?_
      refine Wp.seqN (by kernel_rfl) ?_
      refine Wp.reg tiok mix hc (by kernel_rfl) (ah := none) (rs := [some (.no), some (.no)]) (kt := [4]) (ko := []) (T' := [(4, .int .i64 w_3)]) (O' := []) (by kernel_rfl) trivial (by kernel_rfl) (by kernel_rfl) ?_
      refine seqQ_norm ?_
      refine Wp.retN (by kernel_rfl) ?_
      refine blockQ_ret ?_
      refine seqQ_ret ?_
      refine loopQ_ret ?_
      obtain rfl := Option.some.inj h
      exact RetE.ret (fl := [true]) (by kernel_rfl)
    · refine Wp.condF (b := r_4_5) (by kernel_rfl) (by kernel_rfl) hb_5 ?_
      refine Wp.skipN (by kernel_rfl) ?_
      refine blockQ_norm ?_
      refine seqQ_norm ?_
      refine Wp.reg tiok mix hc (by kernel_rfl) (ah := none) (rs := [some (.no), some (.no)]) (kt := [0, 1, 7, 8]) (ko := []) (T' := [(0, .sl (List.map I s0)), (1, .fn 63 []), (7, .int .i64 (s0.length : Int)), (8, .int .i64 (wr (w_3 + 1)))]) (O' := []) (by kernel_rfl) trivial (by kernel_rfl) (by kernel_rfl) ?_
      refine loopQ_norm ?_
      exact (slices_IndexFunc_int_Kimpl_FillOpen_c1_l0_ih _ _ h c hc)
  · refine Wp.condF (b := (decide (w_3 < (s0.length : Int)))) (by kernel_rfl) (by kernel_rfl) hb_4 ?_
    refine Wp.exitN (i := 0) (by kernel_rfl) ?_
    refine seqQ_exit ?_
    refine loopQ_exit ?_
    obtain rfl := Option.some.inj h
    exact Into.view (fun a w hv => SRx.renL [] hv (by kernel_rfl) (by kernel_rfl) (by kernel_rfl))
def slices_IndexFunc_int_Kimpl_FillOpen_c1 (s0 : (List Int)) : Option (Int) :=
    (slices_IndexFunc_int_Kimpl_FillOpen_c1_l0 (s0, 0)) >>= fun fl => match fl with
    | .inl () =>
      some (-1)
    | .inr r =>
      some r
def M_slices_IndexFunc_int_Kimpl_FillOpen_c1 (s0 : (List Int)) (r : Int) : Prop :=
  FnSound Try.prog 113 [.sl (List.map I s0), .fn 63 []] (.int .i64 r) []
theorem slices_IndexFunc_int_Kimpl_FillOpen_c1_s : ∀ p r, slices_IndexFunc_int_Kimpl_FillOpen_c1 p = some r → M_slices_IndexFunc_int_Kimpl_FillOpen_c1 p r := by
  rintro s0 r h
  unfold slices_IndexFunc_int_Kimpl_FillOpen_c1 at h
  show FnSound Try.prog 113 [.sl (List.map I s0), .fn 63 []] (.int .i64 r) []
  refine FnSound.body0 tiok (fn := Try.f113) (code := B113) (by kernel_rfl) (by kernel_rfl) (by kernel_rfl) (by kernel_rfl) (nt := 19) (by kernel_rfl) (by kernel_rfl) (T := [(0, .sl (List.map I s0)), (1, .fn 63 [])]) (O := []) (by kernel_rfl) (by kernel_rfl) (fun c hc => ?_)
  refine Wp.seqN (by kernel_rfl) ?_
  refine Wp.reg tiok mix hc (by kernel_rfl) (ah := none) (rs := [some (.no)]) (kt := [0, 1]) (ko := []) (T' := [(0, .sl (List.map I s0)), (1, .fn 63 [])]) (O' := []) (by kernel_rfl) trivial (by kernel_rfl) (by kernel_rfl) ?_
  refine seqQ_norm ?_
  refine Wp.seqN (by kernel_rfl) ?_
  refine Wp.seqN (by kernel_rfl) ?_
  refine Wp.reg tiok mix hc (by kernel_rfl) (ah := none) (rs := [some (.no), some (.eqv (.no) ⟨[(7, .int .i64 (s0.length : Int))], [], []⟩), some (.no)]) (kt := [0, 1, 7, 8]) (ko := []) (T' := [(0, .sl (List.map I s0)), (1, .fn 63 []), (7, .int .i64 (s0.length : Int)), (8, .int .i64 0)]) (O' := []) (by kernel_rfl) (And.intro (lenT (d := 7) I s0) trivial) (by kernel_rfl) (by kernel_rfl) ?_
  refine seqQ_norm ?_
  refine Wp.blockN (i := 0) (by kernel_rfl) ?_
  obtain ⟨fl, hl_6, h⟩ := bsome h
  have hL := slices_IndexFunc_int_Kimpl_FillOpen_c1_l0_s _ _ hl_6 c hc
  refine Wp.loopN (by kernel_rfl) ?_
  rcases fl with ⟨⟩ | r
  · refine WpL.into (e := (.exit 0)) (mkS [] []) hL ?_
    refine blockQ_hit ?_
    refine seqQ_norm ?_
    refine Wp.seqN (by kernel_rfl) ?_
    refine Wp.reg tiok mix hc (by kernel_rfl) (ah := none) (rs := [some (.no)]) (kt := [4]) (ko := []) (T' := [(4, .int .i64 (-1))]) (O' := []) (by kernel_rfl) trivial (by kernel_rfl) (by kernel_rfl) ?_
    refine seqQ_norm ?_
    refine Wp.retN (by kernel_rfl) ?_
    obtain rfl := Option.some.inj h
    exact RetQ.ret (fl := [true]) (by kernel_rfl)
  · refine WpL.mono hL ?_
    rintro _ _ ⟨rfl, hfin⟩
    refine blockQ_ret ?_
    refine seqQ_ret ?_
    obtain rfl := Option.some.inj h
    exact ⟨.inl rfl, hfin⟩
end Go.Am
