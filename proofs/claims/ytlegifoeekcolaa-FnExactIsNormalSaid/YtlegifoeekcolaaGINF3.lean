/- Functions of the program as pure functions, and that it computes them. Printed by a program of mine (gen.py). -/
import Derived.Test.YtlegifoeekcolaaGINF2
set_option linter.unusedVariables false
set_option linter.unusedSimpArgs false
set_option maxRecDepth 100000
namespace Go.Am
open Go Go.Proofs
def laws_FnExactIsNormal (aT0 : GTerm) : Option (Bool) :=
    (laws_szTerm (aT0, 1048576)) >>= fun r_2_2 =>
    if (decide (r_2_2 < 0)) = true then
      some true
    else
      (laws_toTerm aT0) >>= fun r_5_1 =>
      (spec_IsNormal r_5_1) >>= fun r_5_2 =>
      (laws_toTerm aT0) >>= fun r_6_1 =>
      (impl_IsNormal r_6_1) >>= fun r_7_1 =>
      if (r_7_1 == r_5_2) = true then
        (laws_toTerm aT0) >>= fun r_10_2 =>
        (laws_eqTerm (r_6_1, r_10_2)) >>= fun r_10_3 =>
        if r_10_3 = true then
          some true
        else
          some false
      else
        some false
def M_laws_FnExactIsNormal (aT0 : GTerm) (r : Bool) : Prop :=
  FnSound Try.prog 5 [.agg [.int .i64 aT0.fOp, .int .i64 aT0.fN, .sl (List.map I aT0.fType), .sl (List.map GTerm_S aT0.fKids)]] (.bool r) []
theorem laws_FnExactIsNormal_s : ∀ p r, laws_FnExactIsNormal p = some r → M_laws_FnExactIsNormal p r := by
  rintro aT0 r h
  unfold laws_FnExactIsNormal at h
  show FnSound Try.prog 5 [.agg [.int .i64 aT0.fOp, .int .i64 aT0.fN, .sl (List.map I aT0.fType), .sl (List.map GTerm_S aT0.fKids)]] (.bool r) []
  refine FnSound.body0 tiok (fn := Try.f5) (code := B5) (by kernel_rfl) (by kernel_rfl) (by kernel_rfl) (by kernel_rfl) (nt := 27) (by kernel_rfl) (by kernel_rfl) (T := [(0, .agg [.int .i64 aT0.fOp, .int .i64 aT0.fN, .sl (List.map I aT0.fType), .sl (List.map GTerm_S aT0.fKids)])]) (O := []) (by kernel_rfl) (by kernel_rfl) (fun c hc => ?_)
  refine Wp.seqN (by kernel_rfl) ?_
  refine Wp.reg tiok mix hc (by kernel_rfl) (ah := none) (rs := [some (.new 1), some (.no)]) (kt := [1]) (ko := [1]) (T' := [(1, .ra 1 0)]) (O' := [(1, .box [.int .i64 aT0.fOp, .int .i64 aT0.fN, .sl (List.map I aT0.fType), .sl (List.map GTerm_S aT0.fKids)])]) (by kernel_rfl) trivial (by kernel_rfl) (by kernel_rfl) ?_
  refine seqQ_norm ?_
  refine Wp.seqN (by kernel_rfl) ?_
  refine Wp.reg tiok mix hc (by kernel_rfl) (ah := none) (rs := [some (.no)]) (kt := [1, 3]) (ko := [1]) (T' := [(1, .ra 1 0), (3, .int .i64 1048576)]) (O' := [(1, .box [.int .i64 aT0.fOp, .int .i64 aT0.fN, .sl (List.map I aT0.fType), .sl (List.map GTerm_S aT0.fKids)])]) (by kernel_rfl) trivial (by kernel_rfl) (by kernel_rfl) ?_
  refine seqQ_norm ?_
  refine Wp.seqN (by kernel_rfl) ?_
  obtain ⟨r_2_2, hr_2_2, h⟩ := bsome h
  refine Wp.reg tiok mix hc (by kernel_rfl) (ah := none) (rs := [some (.no), some (.no), some (.call (.int .i64 r_2_2) [] 1), some (.no)]) (kt := [1, 3]) (ko := [1]) (T' := [(1, .ra 1 0), (3, .int .i64 r_2_2)]) (O' := [(1, .box [.int .i64 aT0.fOp, .int .i64 aT0.fN, .sl (List.map I aT0.fType), .sl (List.map GTerm_S aT0.fKids)])]) (by kernel_rfl) (And.intro (laws_szTerm_s _ _ hr_2_2) (And.intro bod_19 (And.intro (Or.inl rfl : ([] : List Nat) = [] ∨ noSh (.int .i64 r_2_2) = true) trivial))) (by kernel_rfl) (by kernel_rfl) ?_
  refine seqQ_norm ?_
  refine Wp.seqN (by kernel_rfl) ?_
  refine Wp.seqN (by kernel_rfl) ?_
  refine Wp.reg tiok mix hc (by kernel_rfl) (ah := none) (rs := [some (.no), some (.no)]) (kt := [1, 11]) (ko := [1]) (T' := [(1, .ra 1 0), (11, .bool (decide (r_2_2 < 0)))]) (O' := [(1, .box [.int .i64 aT0.fOp, .int .i64 aT0.fN, .sl (List.map I aT0.fType), .sl (List.map GTerm_S aT0.fKids)])]) (by kernel_rfl) trivial (by kernel_rfl) (by kernel_rfl) ?_
  refine seqQ_norm ?_
  rcases itesome h with ⟨hb_1, h⟩ | ⟨hb_1, h⟩
  · refine Wp.condT (b := (decide (r_2_2 < 0))) (by kernel_rfl) (by kernel_rfl) hb_1 ?_
    refine Wp.seqN (by kernel_rfl) ?_
    refine Wp.reg tiok mix hc (by kernel_rfl) (ah := none) (rs := [some (.no)]) (kt := [2]) (ko := []) (T' := [(2, .bool true)]) (O' := []) (by kernel_rfl) trivial (by kernel_rfl) (by kernel_rfl) ?_
    refine seqQ_norm ?_
    refine Wp.retN (by kernel_rfl) ?_
    refine seqQ_ret ?_
    obtain rfl := Option.some.inj h
    exact RetQ.ret (fl := [true]) (by kernel_rfl)
  · refine Wp.condF (b := (decide (r_2_2 < 0))) (by kernel_rfl) (by kernel_rfl) hb_1 ?_
    refine Wp.skipN (by kernel_rfl) ?_
    refine seqQ_norm ?_
    refine Wp.seqN (by kernel_rfl) ?_
    obtain ⟨r_5_1, hr_5_1, h⟩ := bsome h
    obtain ⟨r_5_2, hr_5_2, h⟩ := bsome h
    refine Wp.reg tiok mix hc (by kernel_rfl) (ah := none) (rs := [some (.no), some (.call (.agg [.int .i64 r_5_1.fOp, .int .i64 r_5_1.fN, .osl (List.map I r_5_1.fType), .osl (List.map GTerm_O r_5_1.fKids)]) [] 2), some (.call (.bool r_5_2) [] 1), some (.no)]) (kt := [1, 4]) (ko := [1]) (T' := [(1, .ra 1 0), (4, .bool r_5_2)]) (O' := [(1, .box [.int .i64 aT0.fOp, .int .i64 aT0.fN, .sl (List.map I aT0.fType), .sl (List.map GTerm_S aT0.fKids)])]) (by kernel_rfl) (And.intro (laws_toTerm_s _ _ hr_5_1) (And.intro bod_21 (And.intro (Or.inl rfl : ([] : List Nat) = [] ∨ noSh (.agg [.int .i64 r_5_1.fOp, .int .i64 r_5_1.fN, .osl (List.map I r_5_1.fType), .osl (List.map GTerm_O r_5_1.fKids)]) = true) (And.intro (FnSound.args (A1 := [.agg [.int .i64 r_5_1.fOp, .int .i64 r_5_1.fN, .sl (shares (List.map I r_5_1.fType)), .sl (shares (List.map GTerm_O r_5_1.fKids))]]) (A2 := [.agg [.int .i64 r_5_1.fOp, .int .i64 r_5_1.fN, .sl (List.map I r_5_1.fType), .sl (List.map GTerm_S r_5_1.fKids)]]) (by simp only [List.map_nil, sh_GTerm_O, sh_I]) (spec_IsNormal_s _ _ hr_5_2)) (And.intro bod_24 (And.intro (Or.inr rfl : ([2, 3] : List Nat) = [] ∨ noSh (.bool r_5_2) = true) trivial)))))) (by kernel_rfl) (by kernel_rfl) ?_
    refine seqQ_norm ?_
    refine Wp.seqN (by kernel_rfl) ?_
    obtain ⟨r_6_1, hr_6_1, h⟩ := bsome h
    refine Wp.reg tiok mix hc (by kernel_rfl) (ah := none) (rs := [some (.no), some (.call (.agg [.int .i64 r_6_1.fOp, .int .i64 r_6_1.fN, .osl (List.map I r_6_1.fType), .osl (List.map GTerm_O r_6_1.fKids)]) [] 4), some (.new 6), some (.no)]) (kt := [1, 4, 5]) (ko := [1, 4, 5, 6]) (T' := [(1, .ra 1 0), (4, .bool r_5_2), (5, .ra 6 0)]) (O' := [(1, .box [.int .i64 aT0.fOp, .int .i64 aT0.fN, .sl (List.map I aT0.fType), .sl (List.map GTerm_S aT0.fKids)]), (4, .arr (List.map I r_6_1.fType)), (5, .arr (List.map GTerm_O r_6_1.fKids)), (6, .box [.int .i64 r_6_1.fOp, .int .i64 r_6_1.fN, .rs 4, .rs 5])]) (by kernel_rfl) (And.intro (laws_toTerm_s _ _ hr_6_1) (And.intro bod_21 (And.intro (Or.inl rfl : ([] : List Nat) = [] ∨ noSh (.agg [.int .i64 r_6_1.fOp, .int .i64 r_6_1.fN, .osl (List.map I r_6_1.fType), .osl (List.map GTerm_O r_6_1.fKids)]) = true) trivial))) (by kernel_rfl) (by kernel_rfl) ?_
    refine seqQ_norm ?_
    refine Wp.seqN (by kernel_rfl) ?_
    obtain ⟨r_7_1, hr_7_1, h⟩ := bsome h
    refine Wp.reg tiok mix hc (by kernel_rfl) (ah := none) (rs := [some (.no), some (.call (.bool r_7_1) [] 1), some (.no)]) (kt := [1, 4, 5, 6]) (ko := [1, 4, 5, 6]) (T' := [(1, .ra 1 0), (4, .bool r_5_2), (5, .ra 6 0), (6, .bool r_7_1)]) (O' := [(1, .box [.int .i64 aT0.fOp, .int .i64 aT0.fN, .sl (List.map I aT0.fType), .sl (List.map GTerm_S aT0.fKids)]), (4, .arr (List.map I r_6_1.fType)), (5, .arr (List.map GTerm_O r_6_1.fKids)), (6, .box [.int .i64 r_6_1.fOp, .int .i64 r_6_1.fN, .rs 4, .rs 5])]) (by kernel_rfl) (And.intro (FnSound.args (A1 := [.agg [.int .i64 r_6_1.fOp, .int .i64 r_6_1.fN, .sl (shares (List.map I r_6_1.fType)), .sl (shares (List.map GTerm_O r_6_1.fKids))]]) (A2 := [.agg [.int .i64 r_6_1.fOp, .int .i64 r_6_1.fN, .sl (List.map I r_6_1.fType), .sl (List.map GTerm_S r_6_1.fKids)]]) (by simp only [List.map_nil, sh_GTerm_O, sh_I]) (impl_IsNormal_s _ _ hr_7_1)) (And.intro bod_25 (And.intro (Or.inr rfl : ([4, 5] : List Nat) = [] ∨ noSh (.bool r_7_1) = true) trivial))) (by kernel_rfl) (by kernel_rfl) ?_
    refine seqQ_norm ?_
    refine Wp.seqN (by kernel_rfl) ?_
    refine Wp.seqN (by kernel_rfl) ?_
    refine Wp.reg tiok mix hc (by kernel_rfl) (ah := none) (rs := [some (.no), some (.no), some (.no)]) (kt := [1, 5, 21]) (ko := [1, 4, 5, 6]) (T' := [(1, .ra 1 0), (5, .ra 6 0), (21, .bool (!(r_7_1 == r_5_2)))]) (O' := [(1, .box [.int .i64 aT0.fOp, .int .i64 aT0.fN, .sl (List.map I aT0.fType), .sl (List.map GTerm_S aT0.fKids)]), (4, .arr (List.map I r_6_1.fType)), (5, .arr (List.map GTerm_O r_6_1.fKids)), (6, .box [.int .i64 r_6_1.fOp, .int .i64 r_6_1.fN, .rs 4, .rs 5])]) (by kernel_rfl) trivial (by kernel_rfl) (by kernel_rfl) ?_
    refine seqQ_norm ?_
    rcases itesome h with ⟨hb_2, h⟩ | ⟨hb_2, h⟩
    · refine Wp.condF (b := (!(r_7_1 == r_5_2))) (by kernel_rfl) (by kernel_rfl) (nF hb_2) ?_
      refine Wp.skipN (by kernel_rfl) ?_
      refine seqQ_norm ?_
      refine Wp.seqN (by kernel_rfl) ?_
      refine Wp.seqN (by kernel_rfl) ?_
      obtain ⟨r_10_2, hr_10_2, h⟩ := bsome h
      obtain ⟨r_10_3, hr_10_3, h⟩ := bsome h
      refine Wp.reg tiok mix hc (by kernel_rfl) (ah := (some [[], [], [1], [0, 1, 2], [0, 1, 2, 3]])) (rs := [some (.no), some (.no), some (.call (.agg [.int .i64 r_10_2.fOp, .int .i64 r_10_2.fN, .osl (List.map I r_10_2.fType), .osl (List.map GTerm_O r_10_2.fKids)]) [] 7), some (.call (.bool r_10_3) [] 1), some (.no)]) (kt := [26]) (ko := []) (T' := [(26, .bool (!r_10_3))]) (O' := []) (by kernel_rfl) (And.intro (laws_toTerm_s _ _ hr_10_2) (And.intro bod_21 (And.intro (Or.inl rfl : ([] : List Nat) = [] ∨ noSh (.agg [.int .i64 r_10_2.fOp, .int .i64 r_10_2.fN, .osl (List.map I r_10_2.fType), .osl (List.map GTerm_O r_10_2.fKids)]) = true) (And.intro (FnSound.args (A1 := [.agg [.int .i64 r_6_1.fOp, .int .i64 r_6_1.fN, .sl (shares (List.map I r_6_1.fType)), .sl (shares (List.map GTerm_O r_6_1.fKids))], .agg [.int .i64 r_10_2.fOp, .int .i64 r_10_2.fN, .sl (shares (List.map I r_10_2.fType)), .sl (shares (List.map GTerm_O r_10_2.fKids))]]) (A2 := [.agg [.int .i64 r_6_1.fOp, .int .i64 r_6_1.fN, .sl (List.map I r_6_1.fType), .sl (List.map GTerm_S r_6_1.fKids)], .agg [.int .i64 r_10_2.fOp, .int .i64 r_10_2.fN, .sl (List.map I r_10_2.fType), .sl (List.map GTerm_S r_10_2.fKids)]]) (by simp only [List.map_nil, sh_GTerm_O, sh_I]) (laws_eqTerm_s _ _ hr_10_3)) (And.intro bod_23 (And.intro (Or.inr rfl : ([4, 5, 7, 8] : List Nat) = [] ∨ noSh (.bool r_10_3) = true) trivial)))))) (by kernel_rfl) (by kernel_rfl) ?_
      refine seqQ_norm ?_
      rcases itesome h with ⟨hb_3, h⟩ | ⟨hb_3, h⟩
      · refine Wp.condF (b := (!r_10_3)) (by kernel_rfl) (by kernel_rfl) (nF hb_3) ?_
        refine Wp.skipN (by kernel_rfl) ?_
        refine seqQ_norm ?_
        refine Wp.seqN (by kernel_rfl) ?_
        refine Wp.reg tiok mix hc (by kernel_rfl) (ah := none) (rs := [some (.no)]) (kt := [2]) (ko := []) (T' := [(2, .bool true)]) (O' := []) (by kernel_rfl) trivial (by kernel_rfl) (by kernel_rfl) ?_
        refine seqQ_norm ?_
        refine Wp.retN (by kernel_rfl) ?_
        obtain rfl := Option.some.inj h
        exact RetQ.ret (fl := [true]) (by kernel_rfl)
      · refine Wp.condT (b := (!r_10_3)) (by kernel_rfl) (by kernel_rfl) (nT hb_3) ?_
        refine Wp.seqN (by kernel_rfl) ?_
        refine Wp.reg tiok mix hc (by kernel_rfl) (ah := none) (rs := [some (.no)]) (kt := [2]) (ko := []) (T' := [(2, .bool false)]) (O' := []) (by kernel_rfl) trivial (by kernel_rfl) (by kernel_rfl) ?_
        refine seqQ_norm ?_
        refine Wp.retN (by kernel_rfl) ?_
        refine seqQ_ret ?_
        obtain rfl := Option.some.inj h
        exact RetQ.ret (fl := [true]) (by kernel_rfl)
    · refine Wp.condT (b := (!(r_7_1 == r_5_2))) (by kernel_rfl) (by kernel_rfl) (nT hb_2) ?_
      refine Wp.seqN (by kernel_rfl) ?_
      refine Wp.reg tiok mix hc (by kernel_rfl) (ah := none) (rs := [some (.no)]) (kt := [2]) (ko := []) (T' := [(2, .bool false)]) (O' := []) (by kernel_rfl) trivial (by kernel_rfl) (by kernel_rfl) ?_
      refine seqQ_norm ?_
      refine Wp.retN (by kernel_rfl) ?_
      refine seqQ_ret ?_
      obtain rfl := Option.some.inj h
      exact RetQ.ret (fl := [true]) (by kernel_rfl)
end Go.Am
