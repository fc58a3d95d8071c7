/- Functions of the program as pure functions, and that it computes them. Printed by a program of mine (gen.py). -/
import Derived.Test.YtlegifoeekcolaaGROF2
set_option linter.unusedVariables false
set_option linter.unusedSimpArgs false
set_option maxRecDepth 100000
namespace Go.Am
open Go Go.Proofs
mutual
def laws_eqTerm (p : GTerm × GTerm) : Option (Bool) :=
  match p with
  | (a0, b1) =>
    if (a0.fOp != b1.fOp) = true then
      some false
    else
      if (a0.fN != b1.fN) = true then
        some false
      else
        (laws_eqIntS (a0.fType, b1.fType)) >>= fun r_5_4 =>
        if r_5_4 = true then
          (laws_eqTermS (a0.fKids, b1.fKids)) >>= fun r_7_4 =>
          if r_7_4 = true then
            some true
          else
            some false
        else
          some false
  partial_fixpoint
def laws_eqTermS (p : (List GTerm) × (List GTerm)) : Option (Bool) :=
  match p with
  | (a0, b1) =>
    if ((a0.length : Int) != (b1.length : Int)) = true then
      some false
    else
      (laws_eqTermS_l0 (a0, b1, 0)) >>= fun fl => match fl with
      | .inl () =>
        some true
      | .inr r =>
        some r
  partial_fixpoint
def laws_eqTermS_l0 (p : (List GTerm) × (List GTerm) × Int) : Option ((Unit) ⊕ (Bool)) :=
  match p with
  | (a0, b1, i_4) =>
    if (decide (i_4 < (a0.length : Int))) = true then
      (idx a0 i_4) >>= fun e_6_2 =>
      (idx b1 i_4) >>= fun e_6_6 =>
      (laws_eqTerm (e_6_2, e_6_6)) >>= fun r_6_8 =>
      if r_6_8 = true then
        laws_eqTermS_l0 (a0, b1, (wr (i_4 + 1)))
      else
        some (.inr false)
    else
      some (.inl ())
  partial_fixpoint
end
def M_laws_eqTerm (p : GTerm × GTerm) (r : Bool) : Prop :=
  match p with
  | (a0, b1) => FnSound Try.prog 23 [.agg [.int .i64 a0.fOp, .int .i64 a0.fN, .sl (List.map I a0.fType), .sl (List.map GTerm_S a0.fKids)], .agg [.int .i64 b1.fOp, .int .i64 b1.fN, .sl (List.map I b1.fType), .sl (List.map GTerm_S b1.fKids)]] (.bool r) []
def M_laws_eqTermS (p : (List GTerm) × (List GTerm)) (r : Bool) : Prop :=
  match p with
  | (a0, b1) => FnSound Try.prog 63 [.sl (List.map GTerm_S a0), .sl (List.map GTerm_S b1)] (.bool r) []
def M_laws_eqTermS_l0 (p : (List GTerm) × (List GTerm) × Int) (fl : (Unit) ⊕ (Bool)) : Prop :=
  match p with
  | (a0, b1, i_4) => ∀ c : Ctx, c.nt = 27 → WpL Try.prog c (cl (cl (cr (cl (cr (cr B63)))))) (laws_eqTermS_F1 c fl) (mkS [(0, .sl (List.map GTerm_S a0)), (1, .sl (List.map GTerm_S b1)), (5, .int .i64 i_4)] [])
theorem laws_eqTerm_all : (∀ p r, laws_eqTerm p = some r → M_laws_eqTerm p r) ∧ (∀ p r, laws_eqTermS p = some r → M_laws_eqTermS p r) ∧ (∀ p r, laws_eqTermS_l0 p = some r → M_laws_eqTermS_l0 p r) := by
  refine laws_eqTerm.mutual_partial_correctness M_laws_eqTerm M_laws_eqTermS M_laws_eqTermS_l0 ?_ ?_ ?_
  · rintro laws_eqTermS_f laws_eqTermS_ih ⟨a0, b1⟩ r h
    show FnSound Try.prog 23 [.agg [.int .i64 a0.fOp, .int .i64 a0.fN, .sl (List.map I a0.fType), .sl (List.map GTerm_S a0.fKids)], .agg [.int .i64 b1.fOp, .int .i64 b1.fN, .sl (List.map I b1.fType), .sl (List.map GTerm_S b1.fKids)]] (.bool r) []
    refine FnSound.body0 tiok (fn := Try.f23) (code := B23) (by kernel_rfl) (by kernel_rfl) (by kernel_rfl) (by kernel_rfl) (nt := 27) (by kernel_rfl) (by kernel_rfl) (T := [(0, .agg [.int .i64 a0.fOp, .int .i64 a0.fN, .sl (List.map I a0.fType), .sl (List.map GTerm_S a0.fKids)]), (1, .agg [.int .i64 b1.fOp, .int .i64 b1.fN, .sl (List.map I b1.fType), .sl (List.map GTerm_S b1.fKids)])]) (O := []) (by kernel_rfl) (by kernel_rfl) (fun c hc => ?_)
    refine Wp.seqN (by kernel_rfl) ?_
    refine Wp.reg tiok mix hc (by kernel_rfl) (ah := none) (rs := [some (.new 1), some (.new 2), some (.no)]) (kt := [2, 3]) (ko := [1, 2]) (T' := [(2, .ra 1 0), (3, .ra 2 0)]) (O' := [(1, .box [.int .i64 a0.fOp, .int .i64 a0.fN, .sl (List.map I a0.fType), .sl (List.map GTerm_S a0.fKids)]), (2, .box [.int .i64 b1.fOp, .int .i64 b1.fN, .sl (List.map I b1.fType), .sl (List.map GTerm_S b1.fKids)])]) (by kernel_rfl) trivial (by kernel_rfl) (by kernel_rfl) ?_
    refine seqQ_norm ?_
    refine Wp.seqN (by kernel_rfl) ?_
    refine Wp.seqN (by kernel_rfl) ?_
    refine Wp.reg tiok mix hc (by kernel_rfl) (ah := none) (rs := [some (.no), some (.no), some (.no), some (.no), some (.no)]) (kt := [2, 3, 9]) (ko := [1, 2]) (T' := [(2, .ra 1 0), (3, .ra 2 0), (9, .bool (a0.fOp != b1.fOp))]) (O' := [(1, .box [.int .i64 a0.fOp, .int .i64 a0.fN, .sl (List.map I a0.fType), .sl (List.map GTerm_S a0.fKids)]), (2, .box [.int .i64 b1.fOp, .int .i64 b1.fN, .sl (List.map I b1.fType), .sl (List.map GTerm_S b1.fKids)])]) (by kernel_rfl) trivial (by kernel_rfl) (by kernel_rfl) ?_
    refine seqQ_norm ?_
    rcases itesome h with ⟨hb_1, h⟩ | ⟨hb_1, h⟩
    · refine Wp.condT (b := (a0.fOp != b1.fOp)) (by kernel_rfl) (by kernel_rfl) hb_1 ?_
      refine Wp.seqN (by kernel_rfl) ?_
      refine Wp.reg tiok mix hc (by kernel_rfl) (ah := none) (rs := [some (.no)]) (kt := [4]) (ko := []) (T' := [(4, .bool false)]) (O' := []) (by kernel_rfl) trivial (by kernel_rfl) (by kernel_rfl) ?_
      refine seqQ_norm ?_
      refine Wp.retN (by kernel_rfl) ?_
      refine seqQ_ret ?_
      obtain rfl := Option.some.inj h
      exact RetQ.ret (fl := [true]) (by kernel_rfl)
    · refine Wp.condF (b := (a0.fOp != b1.fOp)) (by kernel_rfl) (by kernel_rfl) hb_1 ?_
      refine Wp.skipN (by kernel_rfl) ?_
      refine seqQ_norm ?_
      refine Wp.seqN (by kernel_rfl) ?_
      refine Wp.seqN (by kernel_rfl) ?_
      refine Wp.reg tiok mix hc (by kernel_rfl) (ah := none) (rs := [some (.no), some (.no), some (.no), some (.no), some (.no)]) (kt := [2, 3, 14]) (ko := [1, 2]) (T' := [(2, .ra 1 0), (3, .ra 2 0), (14, .bool (a0.fN != b1.fN))]) (O' := [(1, .box [.int .i64 a0.fOp, .int .i64 a0.fN, .sl (List.map I a0.fType), .sl (List.map GTerm_S a0.fKids)]), (2, .box [.int .i64 b1.fOp, .int .i64 b1.fN, .sl (List.map I b1.fType), .sl (List.map GTerm_S b1.fKids)])]) (by kernel_rfl) trivial (by kernel_rfl) (by kernel_rfl) ?_
      refine seqQ_norm ?_
      rcases itesome h with ⟨hb_2, h⟩ | ⟨hb_2, h⟩
      · refine Wp.condT (b := (a0.fN != b1.fN)) (by kernel_rfl) (by kernel_rfl) hb_2 ?_
        refine Wp.seqN (by kernel_rfl) ?_
        refine Wp.reg tiok mix hc (by kernel_rfl) (ah := none) (rs := [some (.no)]) (kt := [4]) (ko := []) (T' := [(4, .bool false)]) (O' := []) (by kernel_rfl) trivial (by kernel_rfl) (by kernel_rfl) ?_
        refine seqQ_norm ?_
        refine Wp.retN (by kernel_rfl) ?_
        refine seqQ_ret ?_
        obtain rfl := Option.some.inj h
        exact RetQ.ret (fl := [true]) (by kernel_rfl)
      · refine Wp.condF (b := (a0.fN != b1.fN)) (by kernel_rfl) (by kernel_rfl) hb_2 ?_
        refine Wp.skipN (by kernel_rfl) ?_
        refine seqQ_norm ?_
        refine Wp.seqN (by kernel_rfl) ?_
        refine Wp.seqN (by kernel_rfl) ?_
        obtain ⟨r_5_4, hr_5_4, h⟩ := bsome h
        refine Wp.reg tiok mix hc (by kernel_rfl) (ah := none) (rs := [some (.no), some (.no), some (.no), some (.no), some (.call (.bool r_5_4) [] 1), some (.no)]) (kt := [2, 3, 20]) (ko := [1, 2]) (T' := [(2, .ra 1 0), (3, .ra 2 0), (20, .bool (!r_5_4))]) (O' := [(1, .box [.int .i64 a0.fOp, .int .i64 a0.fN, .sl (List.map I a0.fType), .sl (List.map GTerm_S a0.fKids)]), (2, .box [.int .i64 b1.fOp, .int .i64 b1.fN, .sl (List.map I b1.fType), .sl (List.map GTerm_S b1.fKids)])]) (by kernel_rfl) (And.intro (laws_eqIntS_s _ _ hr_5_4) (And.intro bod_29 (And.intro (Or.inl rfl : ([] : List Nat) = [] ∨ noSh (.bool r_5_4) = true) trivial))) (by kernel_rfl) (by kernel_rfl) ?_
        refine seqQ_norm ?_
        rcases itesome h with ⟨hb_3, h⟩ | ⟨hb_3, h⟩
        · refine Wp.condF (b := (!r_5_4)) (by kernel_rfl) (by kernel_rfl) (nF hb_3) ?_
          refine Wp.skipN (by kernel_rfl) ?_
          refine seqQ_norm ?_
          refine Wp.seqN (by kernel_rfl) ?_
          refine Wp.seqN (by kernel_rfl) ?_
          obtain ⟨r_7_4, hr_7_4, h⟩ := bsome h
          refine Wp.reg tiok mix hc (by kernel_rfl) (ah := none) (rs := [some (.no), some (.no), some (.no), some (.no), some (.call (.bool r_7_4) [] 1), some (.no)]) (kt := [26]) (ko := []) (T' := [(26, .bool (!r_7_4))]) (O' := []) (by kernel_rfl) (And.intro (laws_eqTermS_ih _ _ hr_7_4) (And.intro bod_63 (And.intro (Or.inl rfl : ([] : List Nat) = [] ∨ noSh (.bool r_7_4) = true) trivial))) (by kernel_rfl) (by kernel_rfl) ?_
          refine seqQ_norm ?_
          rcases itesome h with ⟨hb_4, h⟩ | ⟨hb_4, h⟩
          · refine Wp.condF (b := (!r_7_4)) (by kernel_rfl) (by kernel_rfl) (nF hb_4) ?_
            refine Wp.skipN (by kernel_rfl) ?_
            refine seqQ_norm ?_
            refine Wp.seqN (by kernel_rfl) ?_
            refine Wp.reg tiok mix hc (by kernel_rfl) (ah := none) (rs := [some (.no)]) (kt := [4]) (ko := []) (T' := [(4, .bool true)]) (O' := []) (by kernel_rfl) trivial (by kernel_rfl) (by kernel_rfl) ?_
            refine seqQ_norm ?_
            refine Wp.retN (by kernel_rfl) ?_
            obtain rfl := Option.some.inj h
            exact RetQ.ret (fl := [true]) (by kernel_rfl)
          · refine Wp.condT (b := (!r_7_4)) (by kernel_rfl) (by kernel_rfl) (nT hb_4) ?_
            refine Wp.seqN (by kernel_rfl) ?_
            refine Wp.reg tiok mix hc (by kernel_rfl) (ah := none) (rs := [some (.no)]) (kt := [4]) (ko := []) (T' := [(4, .bool false)]) (O' := []) (by kernel_rfl) trivial (by kernel_rfl) (by kernel_rfl) ?_
            refine seqQ_norm ?_
            refine Wp.retN (by kernel_rfl) ?_
            refine seqQ_ret ?_
            obtain rfl := Option.some.inj h
            exact RetQ.ret (fl := [true]) (by kernel_rfl)
        · refine Wp.condT (b := (!r_5_4)) (by kernel_rfl) (by kernel_rfl) (nT hb_3) ?_
          refine Wp.seqN (by kernel_rfl) ?_
          refine Wp.reg tiok mix hc (by kernel_rfl) (ah := none) (rs := [some (.no)]) (kt := [4]) (ko := []) (T' := [(4, .bool false)]) (O' := []) (by kernel_rfl) trivial (by kernel_rfl) (by kernel_rfl) ?_
          refine seqQ_norm ?_
          refine Wp.retN (by kernel_rfl) ?_
          refine seqQ_ret ?_
          obtain rfl := Option.some.inj h
          exact RetQ.ret (fl := [true]) (by kernel_rfl)
  · rintro laws_eqTermS_l0_f laws_eqTermS_l0_ih ⟨a0, b1⟩ r h
    show FnSound Try.prog 63 [.sl (List.map GTerm_S a0), .sl (List.map GTerm_S b1)] (.bool r) []
    refine FnSound.body0 tiok (fn := Try.f63) (code := B63) (by kernel_rfl) (by kernel_rfl) (by kernel_rfl) (by kernel_rfl) (nt := 27) (by kernel_rfl) (by kernel_rfl) (T := [(0, .sl (List.map GTerm_S a0)), (1, .sl (List.map GTerm_S b1))]) (O := []) (by kernel_rfl) (by kernel_rfl) (fun c hc => ?_)
    refine Wp.seqN (by kernel_rfl) ?_
    refine Wp.reg tiok mix hc (by kernel_rfl) (ah := none) (rs := [some (.no)]) (kt := [0, 1]) (ko := []) (T' := [(0, .sl (List.map GTerm_S a0)), (1, .sl (List.map GTerm_S b1))]) (O' := []) (by kernel_rfl) trivial (by kernel_rfl) (by kernel_rfl) ?_
    refine seqQ_norm ?_
    refine Wp.seqN (by kernel_rfl) ?_
    refine Wp.seqN (by kernel_rfl) ?_
    refine Wp.reg tiok mix hc (by kernel_rfl) (ah := none) (rs := [some (.no), some (.eqv (.no) ⟨[(7, .int .i64 (a0.length : Int))], [], []⟩), some (.no), some (.eqv (.no) ⟨[(9, .int .i64 (b1.length : Int))], [], []⟩), some (.no)]) (kt := [0, 1, 10]) (ko := []) (T' := [(0, .sl (List.map GTerm_S a0)), (1, .sl (List.map GTerm_S b1)), (10, .bool ((a0.length : Int) != (b1.length : Int)))]) (O' := []) (by kernel_rfl) (And.intro (lenT (d := 7) GTerm_S a0) (And.intro (lenT (d := 9) GTerm_S b1) trivial)) (by kernel_rfl) (by kernel_rfl) ?_
    refine seqQ_norm ?_
    rcases itesome h with ⟨hb_1, h⟩ | ⟨hb_1, h⟩
    · refine Wp.condT (b := ((a0.length : Int) != (b1.length : Int))) (by kernel_rfl) (by kernel_rfl) hb_1 ?_
      refine Wp.seqN (by kernel_rfl) ?_
      refine Wp.reg tiok mix hc (by kernel_rfl) (ah := none) (rs := [some (.no)]) (kt := [4]) (ko := []) (T' := [(4, .bool false)]) (O' := []) (by kernel_rfl) trivial (by kernel_rfl) (by kernel_rfl) ?_
      refine seqQ_norm ?_
      refine Wp.retN (by kernel_rfl) ?_
      refine seqQ_ret ?_
      obtain rfl := Option.some.inj h
      exact RetQ.ret (fl := [true]) (by kernel_rfl)
    · refine Wp.condF (b := ((a0.length : Int) != (b1.length : Int))) (by kernel_rfl) (by kernel_rfl) hb_1 ?_
      refine Wp.skipN (by kernel_rfl) ?_
      refine seqQ_norm ?_
      refine Wp.seqN (by kernel_rfl) ?_
      refine Wp.seqN (by kernel_rfl) ?_
      refine Wp.reg tiok mix hc (by kernel_rfl) (ah := none) (rs := [some (.no)]) (kt := [0, 1, 5]) (ko := []) (T' := [(0, .sl (List.map GTerm_S a0)), (1, .sl (List.map GTerm_S b1)), (5, .int .i64 0)]) (O' := []) (by kernel_rfl) trivial (by kernel_rfl) (by kernel_rfl) ?_
      refine seqQ_norm ?_
      refine Wp.blockN (i := 0) (by kernel_rfl) ?_
      obtain ⟨fl, hl_7, h⟩ := bsome h
      have hL := laws_eqTermS_l0_ih _ _ hl_7 c hc
      refine Wp.loopN (by kernel_rfl) ?_
      rcases fl with ⟨⟩ | r
      · refine WpL.into (e := (.exit 0)) (mkS [] []) hL ?_
        refine blockQ_hit ?_
        refine seqQ_norm ?_
        refine Wp.seqN (by kernel_rfl) ?_
        refine Wp.reg tiok mix hc (by kernel_rfl) (ah := none) (rs := [some (.no)]) (kt := [4]) (ko := []) (T' := [(4, .bool true)]) (O' := []) (by kernel_rfl) trivial (by kernel_rfl) (by kernel_rfl) ?_
        refine seqQ_norm ?_
        refine Wp.retN (by kernel_rfl) ?_
        obtain rfl := Option.some.inj h
        exact RetQ.ret (fl := [true]) (by kernel_rfl)
      · refine WpL.mono hL ?_
        rintro _ _ ⟨rfl, hfin⟩
        refine blockQ_ret ?_
        refine seqQ_ret ?_
        obtain rfl := Option.some.inj h
        exact ⟨.inl rfl, hfin⟩
  · rintro laws_eqTerm_f laws_eqTermS_l0_f laws_eqTerm_ih laws_eqTermS_l0_ih ⟨a0, b1, i_4⟩ r h
    intro c hc
    show WpL Try.prog c (cl (cl (cr (cl (cr (cr B63)))))) (laws_eqTermS_F1 c r) (mkS [(0, .sl (List.map GTerm_S a0)), (1, .sl (List.map GTerm_S b1)), (5, .int .i64 i_4)] [])
    refine WpL.step ?_
    refine Wp.seqN (by kernel_rfl) ?_
    refine Wp.seqN (by kernel_rfl) ?_
    refine Wp.reg tiok mix hc (by kernel_rfl) (ah := none) (rs := [some (.no), some (.no), some (.eqv (.no) ⟨[(13, .int .i64 (a0.length : Int))], [], []⟩), some (.no)]) (kt := [0, 1, 5, 14]) (ko := []) (T' := [(0, .sl (List.map GTerm_S a0)), (1, .sl (List.map GTerm_S b1)), (5, .int .i64 i_4), (14, .bool (decide (i_4 < (a0.length : Int))))]) (O' := []) (by kernel_rfl) (And.intro (lenT (d := 13) GTerm_S a0) trivial) (by kernel_rfl) (by kernel_rfl) ?_
    refine seqQ_norm ?_
    rcases itesome h with ⟨hb_5, h⟩ | ⟨hb_5, h⟩
    · refine Wp.condT (b := (decide (i_4 < (a0.length : Int)))) (by kernel_rfl) (by kernel_rfl) hb_5 ?_
      refine Wp.skipN (by kernel_rfl) ?_
      refine seqQ_norm ?_
      refine Wp.seqN (by kernel_rfl) ?_
      refine Wp.blockN (i := 1) (by kernel_rfl) ?_
      refine Wp.seqN (by kernel_rfl) ?_
      obtain ⟨e_6_2, hi_6_2, h⟩ := bsome h
      obtain ⟨e_6_6, hi_6_6, h⟩ := bsome h
      obtain ⟨r_6_8, hr_6_8, h⟩ := bsome h
      refine Wp.reg tiok mix hc (by kernel_rfl) (ah := (some [[], [], [0, 1], [0, 1, 2], [], [], [4, 5], [4, 5, 6], [0, 1, 2, 3, 4, 5, 6, 7], [0, 1, 2, 3, 4, 5, 6, 7, 8]])) (rs := [some (.no), some (.no), some (.el (.agg [.int .i64 e_6_2.fOp, .int .i64 e_6_2.fN, .sl (List.map I e_6_2.fType), .sl (List.map GTerm_S e_6_2.fKids)])), some (.no), some (.no), some (.no), some (.el (.agg [.int .i64 e_6_6.fOp, .int .i64 e_6_6.fN, .sl (List.map I e_6_6.fType), .sl (List.map GTerm_S e_6_6.fKids)])), some (.no), some (.call (.bool r_6_8) [] 1), some (.no)]) (kt := [0, 1, 5, 26]) (ko := []) (T' := [(0, .sl (List.map GTerm_S a0)), (1, .sl (List.map GTerm_S b1)), (5, .int .i64 i_4), (26, .bool (!r_6_8))]) (O' := []) (by kernel_rfl) (And.intro (idx_sl (enc := GTerm_S) (x := .agg [.int .i64 e_6_2.fOp, .int .i64 e_6_2.fN, .sl (List.map I e_6_2.fType), .sl (List.map GTerm_S e_6_2.fKids)]) hi_6_2 (eq_GTerm_S e_6_2)) (And.intro (idx_sl (enc := GTerm_S) (x := .agg [.int .i64 e_6_6.fOp, .int .i64 e_6_6.fN, .sl (List.map I e_6_6.fType), .sl (List.map GTerm_S e_6_6.fKids)]) hi_6_6 (eq_GTerm_S e_6_6)) (And.intro (laws_eqTerm_ih _ _ hr_6_8) (And.intro bod_23 (And.intro (Or.inl rfl : ([] : List Nat) = [] ∨ noSh (.bool r_6_8) = true) trivial))))) (by kernel_rfl) (by kernel_rfl) ?_
      refine seqQ_norm ?_
      rcases itesome h with ⟨hb_6, h⟩ | ⟨hb_6, h⟩
      · refine Wp.condF (b := (!r_6_8)) (by kernel_rfl) (by kernel_rfl) (nF hb_6) ?_
        refine Wp.skipN (by kernel_rfl) ?_
        refine blockQ_norm ?_
        refine seqQ_norm ?_
        refine Wp.reg tiok mix hc (by kernel_rfl) (ah := none) (rs := [some (.no), some (.no), some (.no)]) (kt := [0, 1, 5]) (ko := []) (T' := [(0, .sl (List.map GTerm_S a0)), (1, .sl (List.map GTerm_S b1)), (5, .int .i64 (wr (i_4 + 1)))]) (O' := []) (by kernel_rfl) trivial (by kernel_rfl) (by kernel_rfl) ?_
        refine loopQ_norm ?_
        exact (laws_eqTermS_l0_ih _ _ h c hc)
      · refine Wp.condT (b := (!r_6_8)) (by kernel_rfl) (by kernel_rfl) (nT hb_6) ?_
        refine Wp.seqN (by kernel_rfl) ?_
        refine Wp.reg tiok mix hc (by kernel_rfl) (ah := none) (rs := [some (.no)]) (kt := [4]) (ko := []) (T' := [(4, .bool false)]) (O' := []) (by kernel_rfl) trivial (by kernel_rfl) (by kernel_rfl) ?_
        refine seqQ_norm ?_
        refine Wp.retN (by kernel_rfl) ?_
        refine blockQ_ret ?_
        refine seqQ_ret ?_
        refine loopQ_ret ?_
        obtain rfl := Option.some.inj h
        exact RetE.ret (fl := [true]) (by kernel_rfl)
    · refine Wp.condF (b := (decide (i_4 < (a0.length : Int)))) (by kernel_rfl) (by kernel_rfl) hb_5 ?_
      refine Wp.exitN (i := 0) (by kernel_rfl) ?_
      refine seqQ_exit ?_
      refine loopQ_exit ?_
      obtain rfl := Option.some.inj h
      exact Into.view (fun a w hv => SRx.renL [] hv (by kernel_rfl) (by kernel_rfl) (by kernel_rfl))
theorem laws_eqTerm_s : ∀ p r, laws_eqTerm p = some r → M_laws_eqTerm p r := laws_eqTerm_all.1
theorem laws_eqTermS_s : ∀ p r, laws_eqTermS p = some r → M_laws_eqTermS p r := laws_eqTerm_all.2.1
theorem laws_eqTermS_l0_s : ∀ p r, laws_eqTermS_l0 p = some r → M_laws_eqTermS_l0 p r := laws_eqTerm_all.2.2
def laws_markIntS_F1 (c : Ctx) : Int × (List Int) → Exit → AState → Prop
  | (k_6, x_7) => Into c (.exit 0) (mkS [(1, .int .i64 k_6)] [(1000, .arr (List.map I x_7))])
def laws_markIntS_l0 (p : (List Int) × Int × Int) : Option (Int × (List Int)) :=
  match p with
  | (a_2, k_3, i_4) =>
    if (decide (i_4 < (a_2.length : Int))) = true then
      (idx a_2 i_4) >>= fun e_4_3 =>
      laws_markIntS_l0 ((List.set a_2 (Int.toNat i_4) k_3), (wr (k_3 + 1)), (wr (i_4 + 1)))
    else
      some ((k_3, a_2))
  partial_fixpoint
def M_laws_markIntS_l0 (p : (List Int) × Int × Int) (fl : Int × (List Int)) : Prop :=
  match p with
  | (a_2, k_3, i_4) => ∀ c : Ctx, c.nt = 19 → WpL Try.prog c (cl (cl (cr (cl (cr B33))))) (laws_markIntS_F1 c fl) (mkS [(0, .rs 1000), (1, .int .i64 k_3), (5, .int .i64 i_4)] [(1000, .arr (List.map I a_2))])
theorem laws_markIntS_l0_s : ∀ p r, laws_markIntS_l0 p = some r → M_laws_markIntS_l0 p r := by
  refine laws_markIntS_l0.partial_correctness M_laws_markIntS_l0 ?_
  rintro laws_markIntS_l0_f laws_markIntS_l0_ih ⟨a_2, k_3, i_4⟩ r h
  intro c hc
  show WpL Try.prog c (cl (cl (cr (cl (cr B33))))) (laws_markIntS_F1 c r) (mkS [(0, .rs 1000), (1, .int .i64 k_3), (5, .int .i64 i_4)] [(1000, .arr (List.map I a_2))])
  refine WpL.step ?_
  refine Wp.seqN (by kernel_rfl) ?_
  refine Wp.seqN (by kernel_rfl) ?_
  refine Wp.reg tiok mix hc (by kernel_rfl) (ah := none) (rs := [some (.no), some (.no), some (.eqv (.no) ⟨[(8, .int .i64 (a_2.length : Int))], [], []⟩), some (.no)]) (kt := [0, 1, 5, 9]) (ko := [1000]) (T' := [(0, .rs 1000), (1, .int .i64 k_3), (5, .int .i64 i_4), (9, .bool (decide (i_4 < (a_2.length : Int))))]) (O' := [(1000, .arr (List.map I a_2))]) (by kernel_rfl) (And.intro (lenT (d := 8) I a_2) trivial) (by kernel_rfl) (by kernel_rfl) ?_
  refine seqQ_norm ?_
  rcases itesome h with ⟨hb_5, h⟩ | ⟨hb_5, h⟩
  · refine Wp.condT (b := (decide (i_4 < (a_2.length : Int)))) (by kernel_rfl) (by kernel_rfl) hb_5 ?_
    refine Wp.skipN (by kernel_rfl) ?_
    refine seqQ_norm ?_
    refine Wp.seqN (by kernel_rfl) ?_
    refine Wp.blockN (i := 1) (by kernel_rfl) ?_
    refine Wp.seqN (by kernel_rfl) ?_
    obtain ⟨e_4_3, hi_4_3, h⟩ := bsome h
    refine Wp.reg tiok mix hc (by kernel_rfl) (ah := none) (rs := [some (.no), some (.no), some (.no), some (.no), some (.eqv (.mk 0 true) ⟨[], [(1000, some (.arr (List.map I (List.set a_2 (Int.toNat i_4) k_3))))], []⟩)]) (kt := [0, 1, 5]) (ko := [1000]) (T' := [(0, .rs 1000), (1, .int .i64 k_3), (5, .int .i64 i_4)]) (O' := [(1000, .arr (List.map I (List.set a_2 (Int.toNat i_4) k_3)))]) (by kernel_rfl) (And.intro (idx_own (enc := I) hi_4_3) (And.intro (congrArg (fun z => (⟨[], [(1000, some (.arr z))], []⟩ : Wr)) (set_row (enc := I) (i := Int.toNat i_4) (l := a_2) (v := k_3) (x := AV.int .i64 k_3) (eq_I k_3))) (And.intro (own_set (enc := I) (sz := 1) sz_I hi_4_3) trivial))) (by kernel_rfl) (by kernel_rfl) ?_
    refine seqQ_norm ?_
    refine Wp.reg tiok mix hc (by kernel_rfl) (ah := none) (rs := [some (.no), some (.no), some (.no)]) (kt := [0, 1, 5]) (ko := [1000]) (T' := [(0, .rs 1000), (1, .int .i64 (wr (k_3 + 1))), (5, .int .i64 i_4)]) (O' := [(1000, .arr (List.map I (List.set a_2 (Int.toNat i_4) k_3)))]) (by kernel_rfl) trivial (by kernel_rfl) (by kernel_rfl) ?_
    refine blockQ_norm ?_
    refine seqQ_norm ?_
    refine Wp.reg tiok mix hc (by kernel_rfl) (ah := none) (rs := [some (.no), some (.no), some (.no)]) (kt := [0, 1, 5]) (ko := [1000]) (T' := [(0, .rs 1000), (1, .int .i64 (wr (k_3 + 1))), (5, .int .i64 (wr (i_4 + 1)))]) (O' := [(1000, .arr (List.map I (List.set a_2 (Int.toNat i_4) k_3)))]) (by kernel_rfl) trivial (by kernel_rfl) (by kernel_rfl) ?_
    refine loopQ_norm ?_
    exact (laws_markIntS_l0_ih _ _ h c hc)
  · refine Wp.condF (b := (decide (i_4 < (a_2.length : Int)))) (by kernel_rfl) (by kernel_rfl) hb_5 ?_
    refine Wp.exitN (i := 0) (by kernel_rfl) ?_
    refine seqQ_exit ?_
    refine loopQ_exit ?_
    obtain ⟨rfl, rfl⟩ := Prod.mk.inj (Option.some.inj h)
    exact Into.view (fun a w hv => SRx.renL [] hv (by kernel_rfl) (by kernel_rfl) (by kernel_rfl))
def laws_markIntS (p : (List Int) × Int) : Option (Int × (List Int)) :=
  match p with
  | (a0, k1) =>
    (laws_markIntS_l0 (a0, k1, 0)) >>= fun (k_6, x_7) =>
    some (k_6, x_7)
def M_laws_markIntS (p : (List Int) × Int) (r : Int × (List Int)) : Prop :=
  match p with
  | (a0, k1) => FnSound Try.prog 33 [.osl (List.map I a0), .int .i64 k1] (.int .i64 r.1) [.osl (List.map I r.2), .undef]
theorem laws_markIntS_s : ∀ p r, laws_markIntS p = some r → M_laws_markIntS p r := by
  rintro ⟨a0, k1⟩ r h
  unfold laws_markIntS at h
  show FnSound Try.prog 33 [.osl (List.map I a0), .int .i64 k1] (.int .i64 r.1) [.osl (List.map I r.2), .undef]
  refine FnSound.bodyO tiok (fn := Try.f33) (code := B33) (by kernel_rfl) (by kernel_rfl) (by kernel_rfl) (nt := 19) (by kernel_rfl) (by kernel_rfl) (T := [(0, .rs 1000), (1, .int .i64 k1)]) (O := [(1000, .arr (List.map I a0))]) (by kernel_rfl) (by kernel_rfl) (fun c hc => ?_)
  refine Wp.seqN (by kernel_rfl) ?_
  refine Wp.reg tiok mix hc (by kernel_rfl) (ah := none) (rs := [some (.no)]) (kt := [0, 1]) (ko := [1000]) (T' := [(0, .rs 1000), (1, .int .i64 k1)]) (O' := [(1000, .arr (List.map I a0))]) (by kernel_rfl) trivial (by kernel_rfl) (by kernel_rfl) ?_
  refine seqQ_norm ?_
  refine Wp.seqN (by kernel_rfl) ?_
  refine Wp.seqN (by kernel_rfl) ?_
  refine Wp.reg tiok mix hc (by kernel_rfl) (ah := none) (rs := [some (.no)]) (kt := [0, 1, 5]) (ko := [1000]) (T' := [(0, .rs 1000), (1, .int .i64 k1), (5, .int .i64 0)]) (O' := [(1000, .arr (List.map I a0))]) (by kernel_rfl) trivial (by kernel_rfl) (by kernel_rfl) ?_
  refine seqQ_norm ?_
  refine Wp.blockN (i := 0) (by kernel_rfl) ?_
  obtain ⟨⟨k_6, x_7⟩, hl_8, h⟩ := bsome h
  have hL := laws_markIntS_l0_s _ _ hl_8 c hc
  refine Wp.loopN (by kernel_rfl) ?_
  · refine WpL.into (e := (.exit 0)) (mkS [(1, .int .i64 k_6)] [(1000, .arr (List.map I x_7))]) hL ?_
    refine blockQ_hit ?_
    refine seqQ_norm ?_
    refine Wp.seqN (by kernel_rfl) ?_
    refine Wp.reg tiok mix hc (by kernel_rfl) (ah := none) (rs := [some (.no), some (.no)]) (kt := [4]) (ko := [1000]) (T' := [(4, .int .i64 k_6)]) (O' := [(1000, .arr (List.map I x_7))]) (by kernel_rfl) trivial (by kernel_rfl) (by kernel_rfl) ?_
    refine seqQ_norm ?_
    refine Wp.retN (by kernel_rfl) ?_
    obtain rfl := Option.some.inj h
    exact RetOQ.ret (fl := [true]) (by kernel_rfl)
def laws_markTermS_F1 (c : Ctx) : Int × (List GTerm) → Exit → AState → Prop
  | (k_6, x_7) => Into c (.exit 0) (mkS [(1, .int .i64 k_6)] [(1000, .arr (List.map GTerm_O x_7))])
mutual
def laws_markTermS (p : (List GTerm) × Int) : Option (Int × (List GTerm)) :=
  match p with
  | (a0, k1) =>
    (laws_markTermS_l0 (a0, k1, 0)) >>= fun (k_6, x_7) =>
    some (k_6, x_7)
  partial_fixpoint
def laws_markTermS_l0 (p : (List GTerm) × Int × Int) : Option (Int × (List GTerm)) :=
  match p with
  | (a_2, k_3, i_4) =>
    if (decide (i_4 < (a_2.length : Int))) = true then
      (idx a_2 i_4) >>= fun e_4_3 =>
      (idx (List.set a_2 (Int.toNat i_4) (GTerm.mk k_3 e_4_3.fN e_4_3.fType e_4_3.fKids)) i_4) >>= fun e_6_3 =>
      (idx (List.set (List.set a_2 (Int.toNat i_4) (GTerm.mk k_3 e_4_3.fN e_4_3.fType e_4_3.fKids)) (Int.toNat i_4) (GTerm.mk e_6_3.fOp (wr (k_3 + 1)) e_6_3.fType e_6_3.fKids)) i_4) >>= fun e_8_x =>
      (laws_markIntS (e_8_x.fType, (wr ((wr (k_3 + 1)) + 1)))) >>= fun (r_8_6, o_8_6_0) =>
      (idx (List.set (List.set (List.set a_2 (Int.toNat i_4) (GTerm.mk k_3 e_4_3.fN e_4_3.fType e_4_3.fKids)) (Int.toNat i_4) (GTerm.mk e_6_3.fOp (wr (k_3 + 1)) e_6_3.fType e_6_3.fKids)) (Int.toNat i_4) (GTerm.mk e_8_x.fOp e_8_x.fN o_8_6_0 e_8_x.fKids)) i_4) >>= fun e_9_x =>
      (laws_markTermS (e_9_x.fKids, r_8_6)) >>= fun (r_9_6, o_9_6_0) =>
      laws_markTermS_l0 ((List.set (List.set (List.set (List.set a_2 (Int.toNat i_4) (GTerm.mk k_3 e_4_3.fN e_4_3.fType e_4_3.fKids)) (Int.toNat i_4) (GTerm.mk e_6_3.fOp (wr (k_3 + 1)) e_6_3.fType e_6_3.fKids)) (Int.toNat i_4) (GTerm.mk e_8_x.fOp e_8_x.fN o_8_6_0 e_8_x.fKids)) (Int.toNat i_4) (GTerm.mk e_9_x.fOp e_9_x.fN e_9_x.fType o_9_6_0)), r_9_6, (wr (i_4 + 1)))
    else
      some ((k_3, a_2))
  partial_fixpoint
end
def M_laws_markTermS (p : (List GTerm) × Int) (r : Int × (List GTerm)) : Prop :=
  match p with
  | (a0, k1) => FnSound Try.prog 74 [.osl (List.map GTerm_O a0), .int .i64 k1] (.int .i64 r.1) [.osl (List.map GTerm_O r.2), .undef]
def M_laws_markTermS_l0 (p : (List GTerm) × Int × Int) (fl : Int × (List GTerm)) : Prop :=
  match p with
  | (a_2, k_3, i_4) => ∀ c : Ctx, c.nt = 41 → WpL Try.prog c (cl (cl (cr (cl (cr B74))))) (laws_markTermS_F1 c fl) (mkS [(0, .rs 1000), (1, .int .i64 k_3), (5, .int .i64 i_4)] [(1000, .arr (List.map GTerm_O a_2))])
theorem laws_markTermS_all : (∀ p r, laws_markTermS p = some r → M_laws_markTermS p r) ∧ (∀ p r, laws_markTermS_l0 p = some r → M_laws_markTermS_l0 p r) := by
  refine laws_markTermS.mutual_partial_correctness M_laws_markTermS M_laws_markTermS_l0 ?_ ?_
  · rintro laws_markTermS_l0_f laws_markTermS_l0_ih ⟨a0, k1⟩ r h
    show FnSound Try.prog 74 [.osl (List.map GTerm_O a0), .int .i64 k1] (.int .i64 r.1) [.osl (List.map GTerm_O r.2), .undef]
    refine FnSound.bodyO tiok (fn := Try.f74) (code := B74) (by kernel_rfl) (by kernel_rfl) (by kernel_rfl) (nt := 41) (by kernel_rfl) (by kernel_rfl) (T := [(0, .rs 1000), (1, .int .i64 k1)]) (O := [(1000, .arr (List.map GTerm_O a0))]) (by kernel_rfl) (by kernel_rfl) (fun c hc => ?_)
    refine Wp.seqN (by kernel_rfl) ?_
    refine Wp.reg tiok mix hc (by kernel_rfl) (ah := none) (rs := [some (.no)]) (kt := [0, 1]) (ko := [1000]) (T' := [(0, .rs 1000), (1, .int .i64 k1)]) (O' := [(1000, .arr (List.map GTerm_O a0))]) (by kernel_rfl) trivial (by kernel_rfl) (by kernel_rfl) ?_
    refine seqQ_norm ?_
    refine Wp.seqN (by kernel_rfl) ?_
    refine Wp.seqN (by kernel_rfl) ?_
    refine Wp.reg tiok mix hc (by kernel_rfl) (ah := none) (rs := [some (.no)]) (kt := [0, 1, 5]) (ko := [1000]) (T' := [(0, .rs 1000), (1, .int .i64 k1), (5, .int .i64 0)]) (O' := [(1000, .arr (List.map GTerm_O a0))]) (by kernel_rfl) trivial (by kernel_rfl) (by kernel_rfl) ?_
    refine seqQ_norm ?_
    refine Wp.blockN (i := 0) (by kernel_rfl) ?_
    obtain ⟨⟨k_6, x_7⟩, hl_8, h⟩ := bsome h
    have hL := laws_markTermS_l0_ih _ _ hl_8 c hc
    refine Wp.loopN (by kernel_rfl) ?_
    · refine WpL.into (e := (.exit 0)) (mkS [(1, .int .i64 k_6)] [(1000, .arr (List.map GTerm_O x_7))]) hL ?_
      refine blockQ_hit ?_
      refine seqQ_norm ?_
      refine Wp.seqN (by kernel_rfl) ?_
      refine Wp.reg tiok mix hc (by kernel_rfl) (ah := none) (rs := [some (.no), some (.no)]) (kt := [4]) (ko := [1000]) (T' := [(4, .int .i64 k_6)]) (O' := [(1000, .arr (List.map GTerm_O x_7))]) (by kernel_rfl) trivial (by kernel_rfl) (by kernel_rfl) ?_
      refine seqQ_norm ?_
      refine Wp.retN (by kernel_rfl) ?_
      obtain rfl := Option.some.inj h
      exact RetOQ.ret (fl := [true]) (by kernel_rfl)
  · rintro laws_markTermS_f laws_markTermS_l0_f laws_markTermS_ih laws_markTermS_l0_ih ⟨a_2, k_3, i_4⟩ r h
    intro c hc
    show WpL Try.prog c (cl (cl (cr (cl (cr B74))))) (laws_markTermS_F1 c r) (mkS [(0, .rs 1000), (1, .int .i64 k_3), (5, .int .i64 i_4)] [(1000, .arr (List.map GTerm_O a_2))])
    refine WpL.step ?_
    refine Wp.seqN (by kernel_rfl) ?_
    refine Wp.seqN (by kernel_rfl) ?_
    refine Wp.reg tiok mix hc (by kernel_rfl) (ah := none) (rs := [some (.no), some (.no), some (.eqv (.no) ⟨[(8, .int .i64 (a_2.length : Int))], [], []⟩), some (.no)]) (kt := [0, 1, 5, 9]) (ko := [1000]) (T' := [(0, .rs 1000), (1, .int .i64 k_3), (5, .int .i64 i_4), (9, .bool (decide (i_4 < (a_2.length : Int))))]) (O' := [(1000, .arr (List.map GTerm_O a_2))]) (by kernel_rfl) (And.intro (lenT (d := 8) GTerm_O a_2) trivial) (by kernel_rfl) (by kernel_rfl) ?_
    refine seqQ_norm ?_
    rcases itesome h with ⟨hb_5, h⟩ | ⟨hb_5, h⟩
    · refine Wp.condT (b := (decide (i_4 < (a_2.length : Int)))) (by kernel_rfl) (by kernel_rfl) hb_5 ?_
      refine Wp.skipN (by kernel_rfl) ?_
      refine seqQ_norm ?_
      refine Wp.seqN (by kernel_rfl) ?_
      refine Wp.blockN (i := 1) (by kernel_rfl) ?_
      refine Wp.seqN (by kernel_rfl) ?_
      obtain ⟨e_4_3, hi_4_3, h⟩ := bsome h
      refine Wp.reg tiok mix hc (by kernel_rfl) (ah := none) (rs := [some (.no), some (.no), some (.no), some (.no), some (.no), some (.eqv (.el (.agg [.int .i64 e_4_3.fOp, .int .i64 e_4_3.fN, .osl (List.map I e_4_3.fType), .osl (List.map GTerm_O e_4_3.fKids)])) ⟨[], [(1000, some (.arr (List.map GTerm_O (List.set a_2 (Int.toNat i_4) (GTerm.mk k_3 e_4_3.fN e_4_3.fType e_4_3.fKids)))))], []⟩)]) (kt := [0, 1, 5]) (ko := [1000]) (T' := [(0, .rs 1000), (1, .int .i64 k_3), (5, .int .i64 i_4)]) (O' := [(1000, .arr (List.map GTerm_O (List.set a_2 (Int.toNat i_4) (GTerm.mk k_3 e_4_3.fN e_4_3.fType e_4_3.fKids))))]) (by kernel_rfl) (And.intro (idx_own (enc := GTerm_O) hi_4_3) (And.intro (congrArg (fun z => (⟨[], [(1000, some (.arr z))], []⟩ : Wr)) (set_row (enc := GTerm_O) (i := Int.toNat i_4) (l := a_2) (v := (GTerm.mk k_3 e_4_3.fN e_4_3.fType e_4_3.fKids)) (x := AV.agg [.int .i64 k_3, .int .i64 e_4_3.fN, .osl (List.map I e_4_3.fType), .osl (List.map GTerm_O e_4_3.fKids)]) (eq_GTerm_O (GTerm.mk k_3 e_4_3.fN e_4_3.fType e_4_3.fKids)))) (And.intro (idx_sl (enc := GTerm_O) (x := .agg [.int .i64 e_4_3.fOp, .int .i64 e_4_3.fN, .osl (List.map I e_4_3.fType), .osl (List.map GTerm_O e_4_3.fKids)]) hi_4_3 (eq_GTerm_O e_4_3)).2 trivial))) (by kernel_rfl) (by kernel_rfl) ?_
      refine seqQ_norm ?_
      refine Wp.seqN (by kernel_rfl) ?_
      refine Wp.reg tiok mix hc (by kernel_rfl) (ah := none) (rs := [some (.no), some (.no), some (.no)]) (kt := [0, 1, 5]) (ko := [1000]) (T' := [(0, .rs 1000), (1, .int .i64 (wr (k_3 + 1))), (5, .int .i64 i_4)]) (O' := [(1000, .arr (List.map GTerm_O (List.set a_2 (Int.toNat i_4) (GTerm.mk k_3 e_4_3.fN e_4_3.fType e_4_3.fKids))))]) (by kernel_rfl) trivial (by kernel_rfl) (by kernel_rfl) ?_
      refine seqQ_norm ?_
      refine Wp.seqN (by kernel_rfl) ?_
      obtain ⟨e_6_3, hi_6_3, h⟩ := bsome h
      refine Wp.reg tiok mix hc (by kernel_rfl) (ah := none) (rs := [some (.no), some (.no), some (.no), some (.no), some (.no), some (.eqv (.el (.agg [.int .i64 e_6_3.fOp, .int .i64 e_6_3.fN, .osl (List.map I e_6_3.fType), .osl (List.map GTerm_O e_6_3.fKids)])) ⟨[], [(1000, some (.arr (List.map GTerm_O (List.set (List.set a_2 (Int.toNat i_4) (GTerm.mk k_3 e_4_3.fN e_4_3.fType e_4_3.fKids)) (Int.toNat i_4) (GTerm.mk e_6_3.fOp (wr (k_3 + 1)) e_6_3.fType e_6_3.fKids)))))], []⟩)]) (kt := [0, 1, 5]) (ko := [1000]) (T' := [(0, .rs 1000), (1, .int .i64 (wr (k_3 + 1))), (5, .int .i64 i_4)]) (O' := [(1000, .arr (List.map GTerm_O (List.set (List.set a_2 (Int.toNat i_4) (GTerm.mk k_3 e_4_3.fN e_4_3.fType e_4_3.fKids)) (Int.toNat i_4) (GTerm.mk e_6_3.fOp (wr (k_3 + 1)) e_6_3.fType e_6_3.fKids))))]) (by kernel_rfl) (And.intro (idx_own (enc := GTerm_O) hi_6_3) (And.intro (congrArg (fun z => (⟨[], [(1000, some (.arr z))], []⟩ : Wr)) (set_row (enc := GTerm_O) (i := Int.toNat i_4) (l := (List.set a_2 (Int.toNat i_4) (GTerm.mk k_3 e_4_3.fN e_4_3.fType e_4_3.fKids))) (v := (GTerm.mk e_6_3.fOp (wr (k_3 + 1)) e_6_3.fType e_6_3.fKids)) (x := AV.agg [.int .i64 e_6_3.fOp, .int .i64 (wr (k_3 + 1)), .osl (List.map I e_6_3.fType), .osl (List.map GTerm_O e_6_3.fKids)]) (eq_GTerm_O (GTerm.mk e_6_3.fOp (wr (k_3 + 1)) e_6_3.fType e_6_3.fKids)))) (And.intro (idx_sl (enc := GTerm_O) (x := .agg [.int .i64 e_6_3.fOp, .int .i64 e_6_3.fN, .osl (List.map I e_6_3.fType), .osl (List.map GTerm_O e_6_3.fKids)]) hi_6_3 (eq_GTerm_O e_6_3)).2 trivial))) (by kernel_rfl) (by kernel_rfl) ?_
      refine seqQ_norm ?_
      refine Wp.seqN (by kernel_rfl) ?_
      refine Wp.reg tiok mix hc (by kernel_rfl) (ah := none) (rs := [some (.no), some (.no), some (.no)]) (kt := [0, 1, 5]) (ko := [1000]) (T' := [(0, .rs 1000), (1, .int .i64 (wr ((wr (k_3 + 1)) + 1))), (5, .int .i64 i_4)]) (O' := [(1000, .arr (List.map GTerm_O (List.set (List.set a_2 (Int.toNat i_4) (GTerm.mk k_3 e_4_3.fN e_4_3.fType e_4_3.fKids)) (Int.toNat i_4) (GTerm.mk e_6_3.fOp (wr (k_3 + 1)) e_6_3.fType e_6_3.fKids))))]) (by kernel_rfl) trivial (by kernel_rfl) (by kernel_rfl) ?_
      refine seqQ_norm ?_
      refine Wp.seqN (by kernel_rfl) ?_
      obtain ⟨e_8_x, hx_8_x, h⟩ := bsome h
      refine Wp.view (fun a w hv => SRx.openL 1000 (Int.toNat i_4) 2 3 [3, 1000] (xs := List.map GTerm_O (List.set (List.set a_2 (Int.toNat i_4) (GTerm.mk k_3 e_4_3.fN e_4_3.fType e_4_3.fKids)) (Int.toNat i_4) (GTerm.mk e_6_3.fOp (wr (k_3 + 1)) e_6_3.fType e_6_3.fKids))) (ys := List.map I e_8_x.fType) (x0 := .agg [.int .i64 e_8_x.fOp, .int .i64 e_8_x.fN, .osl (List.map I e_8_x.fType), .osl (List.map GTerm_O e_8_x.fKids)]) hv (by kernel_rfl) (idx_sl (enc := GTerm_O) (x := .agg [.int .i64 e_8_x.fOp, .int .i64 e_8_x.fN, .osl (List.map I e_8_x.fType), .osl (List.map GTerm_O e_8_x.fKids)]) hx_8_x (eq_GTerm_O e_8_x)).2 (by kernel_rfl) (by kernel_rfl) (by kernel_rfl)) (?_ : Wp Try.prog c _ _ (mkS [(0, .rs 1000), (1, .int .i64 (wr ((wr (k_3 + 1)) + 1))), (5, .int .i64 i_4)] [(3, .arr (List.map I e_8_x.fType)), (1000, .arx (List.map GTerm_O (List.set (List.set a_2 (Int.toNat i_4) (GTerm.mk k_3 e_4_3.fN e_4_3.fType e_4_3.fKids)) (Int.toNat i_4) (GTerm.mk e_6_3.fOp (wr (k_3 + 1)) e_6_3.fType e_6_3.fKids))) (Int.toNat i_4) 2 3)]))
      obtain ⟨⟨r_8_6, o_8_6_0⟩, hr_8_6, h⟩ := bsome h
      refine Wp.reg tiok mix hc (by kernel_rfl) (ah := none) (rs := [some (.no), some (.no), some (.no), some (.no), some (.el (.agg [.int .i64 e_8_x.fOp, .int .i64 e_8_x.fN, .osl (List.map I e_8_x.fType), .osl (List.map GTerm_O e_8_x.fKids)])), some (.no), some (.call (.int .i64 r_8_6) [.osl (List.map I o_8_6_0), .undef] 1), some (.no)]) (kt := [0, 1, 5]) (ko := [3, 1000]) (T' := [(0, .rs 1000), (1, .int .i64 r_8_6), (5, .int .i64 i_4)]) (O' := [(3, .arr (List.map I o_8_6_0)), (1000, .arx (List.map GTerm_O (List.set (List.set a_2 (Int.toNat i_4) (GTerm.mk k_3 e_4_3.fN e_4_3.fType e_4_3.fKids)) (Int.toNat i_4) (GTerm.mk e_6_3.fOp (wr (k_3 + 1)) e_6_3.fType e_6_3.fKids))) (Int.toNat i_4) 2 3)]) (by kernel_rfl) (And.intro (idx_own (enc := GTerm_O) hx_8_x) (And.intro (And.intro (idx_sl (enc := GTerm_O) (x := .agg [.int .i64 e_8_x.fOp, .int .i64 e_8_x.fN, .osl (List.map I e_8_x.fType), .osl (List.map GTerm_O e_8_x.fKids)]) hx_8_x (eq_GTerm_O e_8_x)).2 (rfl : Int.toNat i_4 = Int.toNat i_4)) (And.intro (laws_markIntS_s _ _ hr_8_6) (And.intro bod_33 trivial)))) (by kernel_rfl) (by kernel_rfl) ?_
      refine seqQ_norm ?_
      refine Wp.view (fun a w hv => SRx.closeL 1000 (Int.toNat i_4) 2 3 [1000] (xs := List.map GTerm_O (List.set (List.set a_2 (Int.toNat i_4) (GTerm.mk k_3 e_4_3.fN e_4_3.fType e_4_3.fKids)) (Int.toNat i_4) (GTerm.mk e_6_3.fOp (wr (k_3 + 1)) e_6_3.fType e_6_3.fKids))) (ys := List.map I o_8_6_0) (x0 := .agg [.int .i64 e_8_x.fOp, .int .i64 e_8_x.fN, .osl (List.map I e_8_x.fType), .osl (List.map GTerm_O e_8_x.fKids)]) (x1 := AV.agg [.int .i64 e_8_x.fOp, .int .i64 e_8_x.fN, .osl (List.map I o_8_6_0), .osl (List.map GTerm_O e_8_x.fKids)]) hv (by kernel_rfl) (by kernel_rfl) (by kernel_rfl) (idx_sl (enc := GTerm_O) (x := .agg [.int .i64 e_8_x.fOp, .int .i64 e_8_x.fN, .osl (List.map I e_8_x.fType), .osl (List.map GTerm_O e_8_x.fKids)]) hx_8_x (eq_GTerm_O e_8_x)).2 (by kernel_rfl) (by kernel_rfl : _ = AV.agg [.int .i64 e_8_x.fOp, .int .i64 e_8_x.fN, .osl (List.map I o_8_6_0), .osl (List.map GTerm_O e_8_x.fKids)]) (set_row (enc := GTerm_O) (i := Int.toNat i_4) (l := (List.set (List.set a_2 (Int.toNat i_4) (GTerm.mk k_3 e_4_3.fN e_4_3.fType e_4_3.fKids)) (Int.toNat i_4) (GTerm.mk e_6_3.fOp (wr (k_3 + 1)) e_6_3.fType e_6_3.fKids))) (v := (GTerm.mk e_8_x.fOp e_8_x.fN o_8_6_0 e_8_x.fKids)) (x := AV.agg [.int .i64 e_8_x.fOp, .int .i64 e_8_x.fN, .osl (List.map I o_8_6_0), .osl (List.map GTerm_O e_8_x.fKids)]) (eq_GTerm_O (GTerm.mk e_8_x.fOp e_8_x.fN o_8_6_0 e_8_x.fKids))) (by kernel_rfl)) (?_ : Wp Try.prog c _ _ (mkS [(0, .rs 1000), (1, .int .i64 r_8_6), (5, .int .i64 i_4)] [(1000, .arr (List.map GTerm_O (List.set (List.set (List.set a_2 (Int.toNat i_4) (GTerm.mk k_3 e_4_3.fN e_4_3.fType e_4_3.fKids)) (Int.toNat i_4) (GTerm.mk e_6_3.fOp (wr (k_3 + 1)) e_6_3.fType e_6_3.fKids)) (Int.toNat i_4) (GTerm.mk e_8_x.fOp e_8_x.fN o_8_6_0 e_8_x.fKids))))]))
      obtain ⟨e_9_x, hx_9_x, h⟩ := bsome h
      refine Wp.view (fun a w hv => SRx.openL 1000 (Int.toNat i_4) 3 4 [4, 1000] (xs := List.map GTerm_O (List.set (List.set (List.set a_2 (Int.toNat i_4) (GTerm.mk k_3 e_4_3.fN e_4_3.fType e_4_3.fKids)) (Int.toNat i_4) (GTerm.mk e_6_3.fOp (wr (k_3 + 1)) e_6_3.fType e_6_3.fKids)) (Int.toNat i_4) (GTerm.mk e_8_x.fOp e_8_x.fN o_8_6_0 e_8_x.fKids))) (ys := List.map GTerm_O e_9_x.fKids) (x0 := .agg [.int .i64 e_9_x.fOp, .int .i64 e_9_x.fN, .osl (List.map I e_9_x.fType), .osl (List.map GTerm_O e_9_x.fKids)]) hv (by kernel_rfl) (idx_sl (enc := GTerm_O) (x := .agg [.int .i64 e_9_x.fOp, .int .i64 e_9_x.fN, .osl (List.map I e_9_x.fType), .osl (List.map GTerm_O e_9_x.fKids)]) hx_9_x (eq_GTerm_O e_9_x)).2 (by kernel_rfl) (by kernel_rfl) (by kernel_rfl)) (?_ : Wp Try.prog c _ _ (mkS [(0, .rs 1000), (1, .int .i64 r_8_6), (5, .int .i64 i_4)] [(4, .arr (List.map GTerm_O e_9_x.fKids)), (1000, .arx (List.map GTerm_O (List.set (List.set (List.set a_2 (Int.toNat i_4) (GTerm.mk k_3 e_4_3.fN e_4_3.fType e_4_3.fKids)) (Int.toNat i_4) (GTerm.mk e_6_3.fOp (wr (k_3 + 1)) e_6_3.fType e_6_3.fKids)) (Int.toNat i_4) (GTerm.mk e_8_x.fOp e_8_x.fN o_8_6_0 e_8_x.fKids))) (Int.toNat i_4) 3 4)]))
      obtain ⟨⟨r_9_6, o_9_6_0⟩, hr_9_6, h⟩ := bsome h
      refine Wp.reg tiok mix hc (by kernel_rfl) (ah := none) (rs := [some (.no), some (.no), some (.no), some (.no), some (.el (.agg [.int .i64 e_9_x.fOp, .int .i64 e_9_x.fN, .osl (List.map I e_9_x.fType), .osl (List.map GTerm_O e_9_x.fKids)])), some (.no), some (.call (.int .i64 r_9_6) [.osl (List.map GTerm_O o_9_6_0), .undef] 1), some (.no)]) (kt := [0, 1, 5]) (ko := [4, 1000]) (T' := [(0, .rs 1000), (1, .int .i64 r_9_6), (5, .int .i64 i_4)]) (O' := [(4, .arr (List.map GTerm_O o_9_6_0)), (1000, .arx (List.map GTerm_O (List.set (List.set (List.set a_2 (Int.toNat i_4) (GTerm.mk k_3 e_4_3.fN e_4_3.fType e_4_3.fKids)) (Int.toNat i_4) (GTerm.mk e_6_3.fOp (wr (k_3 + 1)) e_6_3.fType e_6_3.fKids)) (Int.toNat i_4) (GTerm.mk e_8_x.fOp e_8_x.fN o_8_6_0 e_8_x.fKids))) (Int.toNat i_4) 3 4)]) (by kernel_rfl) (And.intro (idx_own (enc := GTerm_O) hx_9_x) (And.intro (And.intro (idx_sl (enc := GTerm_O) (x := .agg [.int .i64 e_9_x.fOp, .int .i64 e_9_x.fN, .osl (List.map I e_9_x.fType), .osl (List.map GTerm_O e_9_x.fKids)]) hx_9_x (eq_GTerm_O e_9_x)).2 (rfl : Int.toNat i_4 = Int.toNat i_4)) (And.intro (laws_markTermS_ih _ _ hr_9_6) (And.intro bod_74 trivial)))) (by kernel_rfl) (by kernel_rfl) ?_
      refine blockQ_norm ?_
      refine seqQ_norm ?_
      refine Wp.view (fun a w hv => SRx.closeL 1000 (Int.toNat i_4) 3 4 [1000] (xs := List.map GTerm_O (List.set (List.set (List.set a_2 (Int.toNat i_4) (GTerm.mk k_3 e_4_3.fN e_4_3.fType e_4_3.fKids)) (Int.toNat i_4) (GTerm.mk e_6_3.fOp (wr (k_3 + 1)) e_6_3.fType e_6_3.fKids)) (Int.toNat i_4) (GTerm.mk e_8_x.fOp e_8_x.fN o_8_6_0 e_8_x.fKids))) (ys := List.map GTerm_O o_9_6_0) (x0 := .agg [.int .i64 e_9_x.fOp, .int .i64 e_9_x.fN, .osl (List.map I e_9_x.fType), .osl (List.map GTerm_O e_9_x.fKids)]) (x1 := AV.agg [.int .i64 e_9_x.fOp, .int .i64 e_9_x.fN, .osl (List.map I e_9_x.fType), .osl (List.map GTerm_O o_9_6_0)]) hv (by kernel_rfl) (by kernel_rfl) (by kernel_rfl) (idx_sl (enc := GTerm_O) (x := .agg [.int .i64 e_9_x.fOp, .int .i64 e_9_x.fN, .osl (List.map I e_9_x.fType), .osl (List.map GTerm_O e_9_x.fKids)]) hx_9_x (eq_GTerm_O e_9_x)).2 (by kernel_rfl) (by kernel_rfl : _ = AV.agg [.int .i64 e_9_x.fOp, .int .i64 e_9_x.fN, .osl (List.map I e_9_x.fType), .osl (List.map GTerm_O o_9_6_0)]) (set_row (enc := GTerm_O) (i := Int.toNat i_4) (l := (List.set (List.set (List.set a_2 (Int.toNat i_4) (GTerm.mk k_3 e_4_3.fN e_4_3.fType e_4_3.fKids)) (Int.toNat i_4) (GTerm.mk e_6_3.fOp (wr (k_3 + 1)) e_6_3.fType e_6_3.fKids)) (Int.toNat i_4) (GTerm.mk e_8_x.fOp e_8_x.fN o_8_6_0 e_8_x.fKids))) (v := (GTerm.mk e_9_x.fOp e_9_x.fN e_9_x.fType o_9_6_0)) (x := AV.agg [.int .i64 e_9_x.fOp, .int .i64 e_9_x.fN, .osl (List.map I e_9_x.fType), .osl (List.map GTerm_O o_9_6_0)]) (eq_GTerm_O (GTerm.mk e_9_x.fOp e_9_x.fN e_9_x.fType o_9_6_0))) (by kernel_rfl)) (?_ : Wp Try.prog c _ _ (mkS [(0, .rs 1000), (1, .int .i64 r_9_6), (5, .int .i64 i_4)] [(1000, .arr (List.map GTerm_O (List.set (List.set (List.set (List.set a_2 (Int.toNat i_4) (GTerm.mk k_3 e_4_3.fN e_4_3.fType e_4_3.fKids)) (Int.toNat i_4) (GTerm.mk e_6_3.fOp (wr (k_3 + 1)) e_6_3.fType e_6_3.fKids)) (Int.toNat i_4) (GTerm.mk e_8_x.fOp e_8_x.fN o_8_6_0 e_8_x.fKids)) (Int.toNat i_4) (GTerm.mk e_9_x.fOp e_9_x.fN e_9_x.fType o_9_6_0))))]))
      refine Wp.reg tiok mix hc (by kernel_rfl) (ah := none) (rs := [some (.no), some (.no), some (.no)]) (kt := [0, 1, 5]) (ko := [1000]) (T' := [(0, .rs 1000), (1, .int .i64 r_9_6), (5, .int .i64 (wr (i_4 + 1)))]) (O' := [(1000, .arr (List.map GTerm_O (List.set (List.set (List.set (List.set a_2 (Int.toNat i_4) (GTerm.mk k_3 e_4_3.fN e_4_3.fType e_4_3.fKids)) (Int.toNat i_4) (GTerm.mk e_6_3.fOp (wr (k_3 + 1)) e_6_3.fType e_6_3.fKids)) (Int.toNat i_4) (GTerm.mk e_8_x.fOp e_8_x.fN o_8_6_0 e_8_x.fKids)) (Int.toNat i_4) (GTerm.mk e_9_x.fOp e_9_x.fN e_9_x.fType o_9_6_0))))]) (by kernel_rfl) trivial (by kernel_rfl) (by kernel_rfl) ?_
      refine loopQ_norm ?_
      exact (laws_markTermS_l0_ih _ _ h c hc)
    · refine Wp.condF (b := (decide (i_4 < (a_2.length : Int)))) (by kernel_rfl) (by kernel_rfl) hb_5 ?_
      refine Wp.exitN (i := 0) (by kernel_rfl) ?_
      refine seqQ_exit ?_
      refine loopQ_exit ?_
      obtain ⟨rfl, rfl⟩ := Prod.mk.inj (Option.some.inj h)
      exact Into.view (fun a w hv => SRx.renL [] hv (by kernel_rfl) (by kernel_rfl) (by kernel_rfl))
theorem laws_markTermS_s : ∀ p r, laws_markTermS p = some r → M_laws_markTermS p r := laws_markTermS_all.1
theorem laws_markTermS_l0_s : ∀ p r, laws_markTermS_l0 p = some r → M_laws_markTermS_l0 p r := laws_markTermS_all.2
def laws_markTerm (p : GTerm × Int) : Option (Int × GTerm) :=
  match p with
  | (a0, k1) =>
    (laws_markIntS (a0.fType, k1)) >>= fun (r_1_3, o_1_3_0) =>
    (laws_markTermS (a0.fKids, r_1_3)) >>= fun (r_2_3, o_2_3_0) =>
    some (r_2_3, (GTerm.mk a0.fOp a0.fN o_1_3_0 o_2_3_0))
def M_laws_markTerm (p : GTerm × Int) (r : Int × GTerm) : Prop :=
  match p with
  | (a0, k1) => FnSound Try.prog 32 [.agg [.int .i64 a0.fOp, .int .i64 a0.fN, .osl (List.map I a0.fType), .osl (List.map GTerm_O a0.fKids)], .int .i64 k1] (.int .i64 r.1) [.agg [.undef, .undef, .osl (List.map I r.2.fType), .osl (List.map GTerm_O r.2.fKids)], .undef]
theorem laws_markTerm_s : ∀ p r, laws_markTerm p = some r → M_laws_markTerm p r := by
  rintro ⟨a0, k1⟩ r h
  unfold laws_markTerm at h
  show FnSound Try.prog 32 [.agg [.int .i64 a0.fOp, .int .i64 a0.fN, .osl (List.map I a0.fType), .osl (List.map GTerm_O a0.fKids)], .int .i64 k1] (.int .i64 r.1) [.agg [.undef, .undef, .osl (List.map I r.2.fType), .osl (List.map GTerm_O r.2.fKids)], .undef]
  refine FnSound.bodyO tiok (fn := Try.f32) (code := B32) (by kernel_rfl) (by kernel_rfl) (by kernel_rfl) (nt := 14) (by kernel_rfl) (by kernel_rfl) (T := [(0, .agg [.int .i64 a0.fOp, .int .i64 a0.fN, .rs 1000, .rs 1001]), (1, .int .i64 k1)]) (O := [(1000, .arr (List.map I a0.fType)), (1001, .arr (List.map GTerm_O a0.fKids))]) (by kernel_rfl) (by kernel_rfl) (fun c hc => ?_)
  refine Wp.seqN (by kernel_rfl) ?_
  refine Wp.reg tiok mix hc (by kernel_rfl) (ah := none) (rs := [some (.new 1), some (.no)]) (kt := [1, 2]) (ko := [1, 1000, 1001]) (T' := [(1, .int .i64 k1), (2, .ra 1 0)]) (O' := [(1, .box [.int .i64 a0.fOp, .int .i64 a0.fN, .rs 1000, .rs 1001]), (1000, .arr (List.map I a0.fType)), (1001, .arr (List.map GTerm_O a0.fKids))]) (by kernel_rfl) trivial (by kernel_rfl) (by kernel_rfl) ?_
  refine seqQ_norm ?_
  refine Wp.seqN (by kernel_rfl) ?_
  obtain ⟨⟨r_1_3, o_1_3_0⟩, hr_1_3, h⟩ := bsome h
  refine Wp.reg tiok mix hc (by kernel_rfl) (ah := none) (rs := [some (.no), some (.no), some (.no), some (.call (.int .i64 r_1_3) [.osl (List.map I o_1_3_0), .undef] 1), some (.no)]) (kt := [1, 2]) (ko := [1, 1000, 1001]) (T' := [(1, .int .i64 r_1_3), (2, .ra 1 0)]) (O' := [(1, .box [.int .i64 a0.fOp, .int .i64 a0.fN, .rs 1000, .rs 1001]), (1000, .arr (List.map I o_1_3_0)), (1001, .arr (List.map GTerm_O a0.fKids))]) (by kernel_rfl) (And.intro (laws_markIntS_s _ _ hr_1_3) (And.intro bod_33 trivial)) (by kernel_rfl) (by kernel_rfl) ?_
  refine seqQ_norm ?_
  refine Wp.seqN (by kernel_rfl) ?_
  obtain ⟨⟨r_2_3, o_2_3_0⟩, hr_2_3, h⟩ := bsome h
  refine Wp.reg tiok mix hc (by kernel_rfl) (ah := none) (rs := [some (.no), some (.no), some (.no), some (.call (.int .i64 r_2_3) [.osl (List.map GTerm_O o_2_3_0), .undef] 1), some (.no)]) (kt := [1]) (ko := [1000, 1001]) (T' := [(1, .int .i64 r_2_3)]) (O' := [(1000, .arr (List.map I o_1_3_0)), (1001, .arr (List.map GTerm_O o_2_3_0))]) (by kernel_rfl) (And.intro (laws_markTermS_s _ _ hr_2_3) (And.intro bod_74 trivial)) (by kernel_rfl) (by kernel_rfl) ?_
  refine seqQ_norm ?_
  refine Wp.seqN (by kernel_rfl) ?_
  refine Wp.reg tiok mix hc (by kernel_rfl) (ah := none) (rs := [some (.no), some (.no)]) (kt := [4]) (ko := [1000, 1001]) (T' := [(4, .int .i64 r_2_3)]) (O' := [(1000, .arr (List.map I o_1_3_0)), (1001, .arr (List.map GTerm_O o_2_3_0))]) (by kernel_rfl) trivial (by kernel_rfl) (by kernel_rfl) ?_
  refine seqQ_norm ?_
  refine Wp.retN (by kernel_rfl) ?_
  obtain rfl := Option.some.inj h
  exact RetOQ.ret (fl := [true]) (by kernel_rfl)
def laws_markIntSS_F1 (c : Ctx) : Int × (List (List Int)) → Exit → AState → Prop
  | (k_6, x_7) => Into c (.exit 0) (mkS [(1, .int .i64 k_6)] [(1000, .arr (List.map LI_o x_7))])
def laws_markIntSS_l0 (p : (List (List Int)) × Int × Int) : Option (Int × (List (List Int))) :=
  match p with
  | (a_2, k_3, i_4) =>
    if (decide (i_4 < (a_2.length : Int))) = true then
      (idx a_2 i_4) >>= fun e_4_x =>
      (laws_markIntS (e_4_x, k_3)) >>= fun (r_4_5, o_4_5_0) =>
      laws_markIntSS_l0 ((List.set a_2 (Int.toNat i_4) o_4_5_0), r_4_5, (wr (i_4 + 1)))
    else
      some ((k_3, a_2))
  partial_fixpoint
def M_laws_markIntSS_l0 (p : (List (List Int)) × Int × Int) (fl : Int × (List (List Int))) : Prop :=
  match p with
  | (a_2, k_3, i_4) => ∀ c : Ctx, c.nt = 19 → WpL Try.prog c (cl (cl (cr (cl (cr B40))))) (laws_markIntSS_F1 c fl) (mkS [(0, .rs 1000), (1, .int .i64 k_3), (5, .int .i64 i_4)] [(1000, .arr (List.map LI_o a_2))])
theorem laws_markIntSS_l0_s : ∀ p r, laws_markIntSS_l0 p = some r → M_laws_markIntSS_l0 p r := by
  refine laws_markIntSS_l0.partial_correctness M_laws_markIntSS_l0 ?_
  rintro laws_markIntSS_l0_f laws_markIntSS_l0_ih ⟨a_2, k_3, i_4⟩ r h
  intro c hc
  show WpL Try.prog c (cl (cl (cr (cl (cr B40))))) (laws_markIntSS_F1 c r) (mkS [(0, .rs 1000), (1, .int .i64 k_3), (5, .int .i64 i_4)] [(1000, .arr (List.map LI_o a_2))])
  refine WpL.step ?_
  refine Wp.seqN (by kernel_rfl) ?_
  refine Wp.seqN (by kernel_rfl) ?_
  refine Wp.reg tiok mix hc (by kernel_rfl) (ah := none) (rs := [some (.no), some (.no), some (.eqv (.no) ⟨[(8, .int .i64 (a_2.length : Int))], [], []⟩), some (.no)]) (kt := [0, 1, 5, 9]) (ko := [1000]) (T' := [(0, .rs 1000), (1, .int .i64 k_3), (5, .int .i64 i_4), (9, .bool (decide (i_4 < (a_2.length : Int))))]) (O' := [(1000, .arr (List.map LI_o a_2))]) (by kernel_rfl) (And.intro (lenT (d := 8) LI_o a_2) trivial) (by kernel_rfl) (by kernel_rfl) ?_
  refine seqQ_norm ?_
  rcases itesome h with ⟨hb_5, h⟩ | ⟨hb_5, h⟩
  · refine Wp.condT (b := (decide (i_4 < (a_2.length : Int)))) (by kernel_rfl) (by kernel_rfl) hb_5 ?_
    refine Wp.skipN (by kernel_rfl) ?_
    refine seqQ_norm ?_
    refine Wp.seqN (by kernel_rfl) ?_
    refine Wp.blockN (i := 1) (by kernel_rfl) ?_
    obtain ⟨e_4_x, hx_4_x, h⟩ := bsome h
    refine Wp.view (fun a w hv => SRx.openL 1000 (Int.toNat i_4) 0 2 [2, 1000] (xs := List.map LI_o a_2) (ys := List.map I e_4_x) (x0 := .osl (List.map I e_4_x)) hv (by kernel_rfl) (idx_sl (enc := LI_o) (x := .osl (List.map I e_4_x)) hx_4_x (eq_LI_o e_4_x)).2 (by kernel_rfl) (by kernel_rfl) (by kernel_rfl)) (?_ : Wp Try.prog c _ _ (mkS [(0, .rs 1000), (1, .int .i64 k_3), (5, .int .i64 i_4), (9, .bool (decide (i_4 < (a_2.length : Int))))] [(2, .arr (List.map I e_4_x)), (1000, .arx (List.map LI_o a_2) (Int.toNat i_4) 0 2)]))
    obtain ⟨⟨r_4_5, o_4_5_0⟩, hr_4_5, h⟩ := bsome h
    refine Wp.reg tiok mix hc (by kernel_rfl) (ah := none) (rs := [some (.no), some (.no), some (.no), some (.el (.osl (List.map I e_4_x))), some (.no), some (.call (.int .i64 r_4_5) [.osl (List.map I o_4_5_0), .undef] 1), some (.no)]) (kt := [0, 1, 5]) (ko := [2, 1000]) (T' := [(0, .rs 1000), (1, .int .i64 r_4_5), (5, .int .i64 i_4)]) (O' := [(2, .arr (List.map I o_4_5_0)), (1000, .arx (List.map LI_o a_2) (Int.toNat i_4) 0 2)]) (by kernel_rfl) (And.intro (idx_own (enc := LI_o) hx_4_x) (And.intro (And.intro (idx_sl (enc := LI_o) (x := .osl (List.map I e_4_x)) hx_4_x (eq_LI_o e_4_x)).2 (rfl : Int.toNat i_4 = Int.toNat i_4)) (And.intro (laws_markIntS_s _ _ hr_4_5) (And.intro bod_33 trivial)))) (by kernel_rfl) (by kernel_rfl) ?_
    refine blockQ_norm ?_
    refine seqQ_norm ?_
    refine Wp.view (fun a w hv => SRx.closeL 1000 (Int.toNat i_4) 0 2 [1000] (xs := List.map LI_o a_2) (ys := List.map I o_4_5_0) (x0 := .osl (List.map I e_4_x)) (x1 := AV.osl (List.map I o_4_5_0)) hv (by kernel_rfl) (by kernel_rfl) (by kernel_rfl) (idx_sl (enc := LI_o) (x := .osl (List.map I e_4_x)) hx_4_x (eq_LI_o e_4_x)).2 (by kernel_rfl) (by kernel_rfl : _ = AV.osl (List.map I o_4_5_0)) (set_row (enc := LI_o) (i := Int.toNat i_4) (l := a_2) (v := o_4_5_0) (x := AV.osl (List.map I o_4_5_0)) (eq_LI_o o_4_5_0)) (by kernel_rfl)) (?_ : Wp Try.prog c _ _ (mkS [(0, .rs 1000), (1, .int .i64 r_4_5), (5, .int .i64 i_4)] [(1000, .arr (List.map LI_o (List.set a_2 (Int.toNat i_4) o_4_5_0)))]))
    refine Wp.reg tiok mix hc (by kernel_rfl) (ah := none) (rs := [some (.no), some (.no), some (.no)]) (kt := [0, 1, 5]) (ko := [1000]) (T' := [(0, .rs 1000), (1, .int .i64 r_4_5), (5, .int .i64 (wr (i_4 + 1)))]) (O' := [(1000, .arr (List.map LI_o (List.set a_2 (Int.toNat i_4) o_4_5_0)))]) (by kernel_rfl) trivial (by kernel_rfl) (by kernel_rfl) ?_
    refine loopQ_norm ?_
    exact (laws_markIntSS_l0_ih _ _ h c hc)
  · refine Wp.condF (b := (decide (i_4 < (a_2.length : Int)))) (by kernel_rfl) (by kernel_rfl) hb_5 ?_
    refine Wp.exitN (i := 0) (by kernel_rfl) ?_
    refine seqQ_exit ?_
    refine loopQ_exit ?_
    obtain ⟨rfl, rfl⟩ := Prod.mk.inj (Option.some.inj h)
    exact Into.view (fun a w hv => SRx.renL [] hv (by kernel_rfl) (by kernel_rfl) (by kernel_rfl))
def laws_markIntSS (p : (List (List Int)) × Int) : Option (Int × (List (List Int))) :=
  match p with
  | (a0, k1) =>
    (laws_markIntSS_l0 (a0, k1, 0)) >>= fun (k_6, x_7) =>
    some (k_6, x_7)
def M_laws_markIntSS (p : (List (List Int)) × Int) (r : Int × (List (List Int))) : Prop :=
  match p with
  | (a0, k1) => FnSound Try.prog 40 [.osl (List.map LI_o a0), .int .i64 k1] (.int .i64 r.1) [.osl (List.map LI_o r.2), .undef]
theorem laws_markIntSS_s : ∀ p r, laws_markIntSS p = some r → M_laws_markIntSS p r := by
  rintro ⟨a0, k1⟩ r h
  unfold laws_markIntSS at h
  show FnSound Try.prog 40 [.osl (List.map LI_o a0), .int .i64 k1] (.int .i64 r.1) [.osl (List.map LI_o r.2), .undef]
  refine FnSound.bodyO tiok (fn := Try.f40) (code := B40) (by kernel_rfl) (by kernel_rfl) (by kernel_rfl) (nt := 19) (by kernel_rfl) (by kernel_rfl) (T := [(0, .rs 1000), (1, .int .i64 k1)]) (O := [(1000, .arr (List.map LI_o a0))]) (by kernel_rfl) (by kernel_rfl) (fun c hc => ?_)
  refine Wp.seqN (by kernel_rfl) ?_
  refine Wp.reg tiok mix hc (by kernel_rfl) (ah := none) (rs := [some (.no)]) (kt := [0, 1]) (ko := [1000]) (T' := [(0, .rs 1000), (1, .int .i64 k1)]) (O' := [(1000, .arr (List.map LI_o a0))]) (by kernel_rfl) trivial (by kernel_rfl) (by kernel_rfl) ?_
  refine seqQ_norm ?_
  refine Wp.seqN (by kernel_rfl) ?_
  refine Wp.seqN (by kernel_rfl) ?_
  refine Wp.reg tiok mix hc (by kernel_rfl) (ah := none) (rs := [some (.no)]) (kt := [0, 1, 5]) (ko := [1000]) (T' := [(0, .rs 1000), (1, .int .i64 k1), (5, .int .i64 0)]) (O' := [(1000, .arr (List.map LI_o a0))]) (by kernel_rfl) trivial (by kernel_rfl) (by kernel_rfl) ?_
  refine seqQ_norm ?_
  refine Wp.blockN (i := 0) (by kernel_rfl) ?_
  obtain ⟨⟨k_6, x_7⟩, hl_8, h⟩ := bsome h
  have hL := laws_markIntSS_l0_s _ _ hl_8 c hc
  refine Wp.loopN (by kernel_rfl) ?_
  · refine WpL.into (e := (.exit 0)) (mkS [(1, .int .i64 k_6)] [(1000, .arr (List.map LI_o x_7))]) hL ?_
    refine blockQ_hit ?_
    refine seqQ_norm ?_
    refine Wp.seqN (by kernel_rfl) ?_
    refine Wp.reg tiok mix hc (by kernel_rfl) (ah := none) (rs := [some (.no), some (.no)]) (kt := [4]) (ko := [1000]) (T' := [(4, .int .i64 k_6)]) (O' := [(1000, .arr (List.map LI_o x_7))]) (by kernel_rfl) trivial (by kernel_rfl) (by kernel_rfl) ?_
    refine seqQ_norm ?_
    refine Wp.retN (by kernel_rfl) ?_
    obtain rfl := Option.some.inj h
    exact RetOQ.ret (fl := [true]) (by kernel_rfl)
def laws_heldIntS_F1 (c : Ctx) : (Int) ⊕ (Int) → Exit → AState → Prop
  | .inl k_7 => Into c (.exit 0) (mkS [(1, .int .i64 k_7)] [])
  | .inr r => RetE TIx Try.f75 [] (.int .i64 r)
def laws_heldIntS_l0 (p : (List Int) × Int × Int) : Option ((Int) ⊕ (Int)) :=
  match p with
  | (a0, k_3, i_4) =>
    if (decide (i_4 < (a0.length : Int))) = true then
      (idx a0 i_4) >>= fun e_4_2 =>
      if (e_4_2 != k_3) = true then
        some (.inr (-1))
      else
        laws_heldIntS_l0 (a0, (wr (k_3 + 1)), (wr (i_4 + 1)))
    else
      some (.inl k_3)
  partial_fixpoint
def M_laws_heldIntS_l0 (p : (List Int) × Int × Int) (fl : (Int) ⊕ (Int)) : Prop :=
  match p with
  | (a0, k_3, i_4) => ∀ c : Ctx, c.nt = 21 → WpL Try.prog c (cl (cl (cr (cl (cr B75))))) (laws_heldIntS_F1 c fl) (mkS [(0, .sl (List.map I a0)), (1, .int .i64 k_3), (5, .int .i64 i_4)] [])
theorem laws_heldIntS_l0_s : ∀ p r, laws_heldIntS_l0 p = some r → M_laws_heldIntS_l0 p r := by
  refine laws_heldIntS_l0.partial_correctness M_laws_heldIntS_l0 ?_
  rintro laws_heldIntS_l0_f laws_heldIntS_l0_ih ⟨a0, k_3, i_4⟩ r h
  intro c hc
  show WpL Try.prog c (cl (cl (cr (cl (cr B75))))) (laws_heldIntS_F1 c r) (mkS [(0, .sl (List.map I a0)), (1, .int .i64 k_3), (5, .int .i64 i_4)] [])
  refine WpL.step ?_
  refine Wp.seqN (by kernel_rfl) ?_
  refine Wp.seqN (by kernel_rfl) ?_
  refine Wp.reg tiok mix hc (by kernel_rfl) (ah := none) (rs := [some (.no), some (.no), some (.eqv (.no) ⟨[(8, .int .i64 (a0.length : Int))], [], []⟩), some (.no)]) (kt := [0, 1, 5, 9]) (ko := []) (T' := [(0, .sl (List.map I a0)), (1, .int .i64 k_3), (5, .int .i64 i_4), (9, .bool (decide (i_4 < (a0.length : Int))))]) (O' := []) (by kernel_rfl) (And.intro (lenT (d := 8) I a0) trivial) (by kernel_rfl) (by kernel_rfl) ?_
  refine seqQ_norm ?_
  rcases itesome h with ⟨hb_5, h⟩ | ⟨hb_5, h⟩
  · refine Wp.condT (b := (decide (i_4 < (a0.length : Int)))) (by kernel_rfl) (by kernel_rfl) hb_5 ?_
    refine Wp.skipN (by kernel_rfl) ?_
    refine seqQ_norm ?_
    refine Wp.seqN (by kernel_rfl) ?_
    refine Wp.blockN (i := 1) (by kernel_rfl) ?_
    refine Wp.seqN (by kernel_rfl) ?_
    refine Wp.seqN (by kernel_rfl) ?_
    obtain ⟨e_4_2, hi_4_2, h⟩ := bsome h
    refine Wp.reg tiok mix hc (by kernel_rfl) (ah := none) (rs := [some (.no), some (.no), some (.el (.int .i64 e_4_2)), some (.no), some (.no), some (.no)]) (kt := [0, 1, 5, 17]) (ko := []) (T' := [(0, .sl (List.map I a0)), (1, .int .i64 k_3), (5, .int .i64 i_4), (17, .bool (e_4_2 != k_3))]) (O' := []) (by kernel_rfl) (And.intro (idx_sl (enc := I) (x := .int .i64 e_4_2) hi_4_2 (eq_I e_4_2)) trivial) (by kernel_rfl) (by kernel_rfl) ?_
    refine seqQ_norm ?_
    rcases itesome h with ⟨hb_6, h⟩ | ⟨hb_6, h⟩
    · refine Wp.condT (b := (e_4_2 != k_3)) (by kernel_rfl) (by kernel_rfl) hb_6 ?_
      refine Wp.seqN (by kernel_rfl) ?_
      refine Wp.reg tiok mix hc (by kernel_rfl) (ah := none) (rs := [some (.no)]) (kt := [4]) (ko := []) (T' := [(4, .int .i64 (-1))]) (O' := []) (by kernel_rfl) trivial (by kernel_rfl) (by kernel_rfl) ?_
      refine seqQ_norm ?_
      refine Wp.retN (by kernel_rfl) ?_
      refine seqQ_ret ?_
      refine blockQ_ret ?_
      refine seqQ_ret ?_
      refine loopQ_ret ?_
      obtain rfl := Option.some.inj h
      exact RetE.ret (fl := [true]) (by kernel_rfl)
    · refine Wp.condF (b := (e_4_2 != k_3)) (by kernel_rfl) (by kernel_rfl) hb_6 ?_
      refine Wp.skipN (by kernel_rfl) ?_
      refine seqQ_norm ?_
      refine Wp.reg tiok mix hc (by kernel_rfl) (ah := none) (rs := [some (.no), some (.no), some (.no)]) (kt := [0, 1, 5]) (ko := []) (T' := [(0, .sl (List.map I a0)), (1, .int .i64 (wr (k_3 + 1))), (5, .int .i64 i_4)]) (O' := []) (by kernel_rfl) trivial (by kernel_rfl) (by kernel_rfl) ?_
      refine blockQ_norm ?_
      refine seqQ_norm ?_
      refine Wp.reg tiok mix hc (by kernel_rfl) (ah := none) (rs := [some (.no), some (.no), some (.no)]) (kt := [0, 1, 5]) (ko := []) (T' := [(0, .sl (List.map I a0)), (1, .int .i64 (wr (k_3 + 1))), (5, .int .i64 (wr (i_4 + 1)))]) (O' := []) (by kernel_rfl) trivial (by kernel_rfl) (by kernel_rfl) ?_
      refine loopQ_norm ?_
      exact (laws_heldIntS_l0_ih _ _ h c hc)
  · refine Wp.condF (b := (decide (i_4 < (a0.length : Int)))) (by kernel_rfl) (by kernel_rfl) hb_5 ?_
    refine Wp.exitN (i := 0) (by kernel_rfl) ?_
    refine seqQ_exit ?_
    refine loopQ_exit ?_
    obtain rfl := Option.some.inj h
    exact Into.view (fun a w hv => SRx.renL [] hv (by kernel_rfl) (by kernel_rfl) (by kernel_rfl))
def laws_heldIntS (p : (List Int) × Int) : Option (Int) :=
  match p with
  | (a0, k1) =>
    (laws_heldIntS_l0 (a0, k1, 0)) >>= fun fl => match fl with
    | .inl k_7 =>
      some k_7
    | .inr r =>
      some r
def M_laws_heldIntS (p : (List Int) × Int) (r : Int) : Prop :=
  match p with
  | (a0, k1) => FnSound Try.prog 75 [.sl (List.map I a0), .int .i64 k1] (.int .i64 r) []
theorem laws_heldIntS_s : ∀ p r, laws_heldIntS p = some r → M_laws_heldIntS p r := by
  rintro ⟨a0, k1⟩ r h
  unfold laws_heldIntS at h
  show FnSound Try.prog 75 [.sl (List.map I a0), .int .i64 k1] (.int .i64 r) []
  refine FnSound.body0 tiok (fn := Try.f75) (code := B75) (by kernel_rfl) (by kernel_rfl) (by kernel_rfl) (by kernel_rfl) (nt := 21) (by kernel_rfl) (by kernel_rfl) (T := [(0, .sl (List.map I a0)), (1, .int .i64 k1)]) (O := []) (by kernel_rfl) (by kernel_rfl) (fun c hc => ?_)
  refine Wp.seqN (by kernel_rfl) ?_
  refine Wp.reg tiok mix hc (by kernel_rfl) (ah := none) (rs := [some (.no)]) (kt := [0, 1]) (ko := []) (T' := [(0, .sl (List.map I a0)), (1, .int .i64 k1)]) (O' := []) (by kernel_rfl) trivial (by kernel_rfl) (by kernel_rfl) ?_
  refine seqQ_norm ?_
  refine Wp.seqN (by kernel_rfl) ?_
  refine Wp.seqN (by kernel_rfl) ?_
  refine Wp.reg tiok mix hc (by kernel_rfl) (ah := none) (rs := [some (.no)]) (kt := [0, 1, 5]) (ko := []) (T' := [(0, .sl (List.map I a0)), (1, .int .i64 k1), (5, .int .i64 0)]) (O' := []) (by kernel_rfl) trivial (by kernel_rfl) (by kernel_rfl) ?_
  refine seqQ_norm ?_
  refine Wp.blockN (i := 0) (by kernel_rfl) ?_
  obtain ⟨fl, hl_8, h⟩ := bsome h
  have hL := laws_heldIntS_l0_s _ _ hl_8 c hc
  refine Wp.loopN (by kernel_rfl) ?_
  rcases fl with k_7 | r
  · refine WpL.into (e := (.exit 0)) (mkS [(1, .int .i64 k_7)] []) hL ?_
    refine blockQ_hit ?_
    refine seqQ_norm ?_
    refine Wp.seqN (by kernel_rfl) ?_
    refine Wp.reg tiok mix hc (by kernel_rfl) (ah := none) (rs := [some (.no), some (.no)]) (kt := [4]) (ko := []) (T' := [(4, .int .i64 k_7)]) (O' := []) (by kernel_rfl) trivial (by kernel_rfl) (by kernel_rfl) ?_
    refine seqQ_norm ?_
    refine Wp.retN (by kernel_rfl) ?_
    obtain rfl := Option.some.inj h
    exact RetQ.ret (fl := [true]) (by kernel_rfl)
  · refine WpL.mono hL ?_
    rintro _ _ ⟨rfl, hfin⟩
    refine blockQ_ret ?_
    refine seqQ_ret ?_
    obtain rfl := Option.some.inj h
    exact ⟨.inl rfl, hfin⟩
def laws_heldIntSS_F1 (c : Ctx) : (Int) ⊕ (Int) → Exit → AState → Prop
  | .inl k_7 => Into c (.exit 0) (mkS [(1, .int .i64 k_7)] [])
  | .inr r => RetE TIx Try.f41 [] (.int .i64 r)
def laws_heldIntSS_l0 (p : (List (List Int)) × Int × Int) : Option ((Int) ⊕ (Int)) :=
  match p with
  | (a0, k_3, i_4) =>
    if (decide (i_4 < (a0.length : Int))) = true then
      (idx a0 i_4) >>= fun e_4_2 =>
      (laws_heldIntS (e_4_2, k_3)) >>= fun r_4_5 =>
      if (decide (r_4_5 < 0)) = true then
        some (.inr (-1))
      else
        laws_heldIntSS_l0 (a0, r_4_5, (wr (i_4 + 1)))
    else
      some (.inl k_3)
  partial_fixpoint
def M_laws_heldIntSS_l0 (p : (List (List Int)) × Int × Int) (fl : (Int) ⊕ (Int)) : Prop :=
  match p with
  | (a0, k_3, i_4) => ∀ c : Ctx, c.nt = 21 → WpL Try.prog c (cl (cl (cr (cl (cr B41))))) (laws_heldIntSS_F1 c fl) (mkS [(0, .sl (List.map LI_s a0)), (1, .int .i64 k_3), (5, .int .i64 i_4)] [])
theorem laws_heldIntSS_l0_s : ∀ p r, laws_heldIntSS_l0 p = some r → M_laws_heldIntSS_l0 p r := by
  refine laws_heldIntSS_l0.partial_correctness M_laws_heldIntSS_l0 ?_
  rintro laws_heldIntSS_l0_f laws_heldIntSS_l0_ih ⟨a0, k_3, i_4⟩ r h
  intro c hc
  show WpL Try.prog c (cl (cl (cr (cl (cr B41))))) (laws_heldIntSS_F1 c r) (mkS [(0, .sl (List.map LI_s a0)), (1, .int .i64 k_3), (5, .int .i64 i_4)] [])
  refine WpL.step ?_
  refine Wp.seqN (by kernel_rfl) ?_
  refine Wp.seqN (by kernel_rfl) ?_
  refine Wp.reg tiok mix hc (by kernel_rfl) (ah := none) (rs := [some (.no), some (.no), some (.eqv (.no) ⟨[(8, .int .i64 (a0.length : Int))], [], []⟩), some (.no)]) (kt := [0, 1, 5, 9]) (ko := []) (T' := [(0, .sl (List.map LI_s a0)), (1, .int .i64 k_3), (5, .int .i64 i_4), (9, .bool (decide (i_4 < (a0.length : Int))))]) (O' := []) (by kernel_rfl) (And.intro (lenT (d := 8) LI_s a0) trivial) (by kernel_rfl) (by kernel_rfl) ?_
  refine seqQ_norm ?_
  rcases itesome h with ⟨hb_5, h⟩ | ⟨hb_5, h⟩
  · refine Wp.condT (b := (decide (i_4 < (a0.length : Int)))) (by kernel_rfl) (by kernel_rfl) hb_5 ?_
    refine Wp.skipN (by kernel_rfl) ?_
    refine seqQ_norm ?_
    refine Wp.seqN (by kernel_rfl) ?_
    refine Wp.blockN (i := 1) (by kernel_rfl) ?_
    refine Wp.seqN (by kernel_rfl) ?_
    obtain ⟨e_4_2, hi_4_2, h⟩ := bsome h
    obtain ⟨r_4_5, hr_4_5, h⟩ := bsome h
    refine Wp.reg tiok mix hc (by kernel_rfl) (ah := none) (rs := [some (.no), some (.no), some (.el (.sl (List.map I e_4_2))), some (.no), some (.no), some (.call (.int .i64 r_4_5) [] 1), some (.no)]) (kt := [0, 1, 5]) (ko := []) (T' := [(0, .sl (List.map LI_s a0)), (1, .int .i64 r_4_5), (5, .int .i64 i_4)]) (O' := []) (by kernel_rfl) (And.intro (idx_sl (enc := LI_s) (x := .sl (List.map I e_4_2)) hi_4_2 (eq_LI_s e_4_2)) (And.intro (laws_heldIntS_s _ _ hr_4_5) (And.intro bod_75 (And.intro (Or.inl rfl : ([] : List Nat) = [] ∨ noSh (.int .i64 r_4_5) = true) trivial)))) (by kernel_rfl) (by kernel_rfl) ?_
    refine seqQ_norm ?_
    refine Wp.seqN (by kernel_rfl) ?_
    refine Wp.reg tiok mix hc (by kernel_rfl) (ah := none) (rs := [some (.no), some (.no)]) (kt := [0, 1, 5, 19]) (ko := []) (T' := [(0, .sl (List.map LI_s a0)), (1, .int .i64 r_4_5), (5, .int .i64 i_4), (19, .bool (decide (r_4_5 < 0)))]) (O' := []) (by kernel_rfl) trivial (by kernel_rfl) (by kernel_rfl) ?_
    refine seqQ_norm ?_
    rcases itesome h with ⟨hb_6, h⟩ | ⟨hb_6, h⟩
    · refine Wp.condT (b := (decide (r_4_5 < 0))) (by kernel_rfl) (by kernel_rfl) hb_6 ?_
      refine Wp.seqN (by kernel_rfl) ?_
      refine Wp.reg tiok mix hc (by kernel_rfl) (ah := none) (rs := [some (.no)]) (kt := [4]) (ko := []) (T' := [(4, .int .i64 (-1))]) (O' := []) (by kernel_rfl) trivial (by kernel_rfl) (by kernel_rfl) ?_
      refine seqQ_norm ?_
      refine Wp.retN (by kernel_rfl) ?_
      refine blockQ_ret ?_
      refine seqQ_ret ?_
      refine loopQ_ret ?_
      obtain rfl := Option.some.inj h
      exact RetE.ret (fl := [true]) (by kernel_rfl)
    · refine Wp.condF (b := (decide (r_4_5 < 0))) (by kernel_rfl) (by kernel_rfl) hb_6 ?_
      refine Wp.skipN (by kernel_rfl) ?_
      refine blockQ_norm ?_
      refine seqQ_norm ?_
      refine Wp.reg tiok mix hc (by kernel_rfl) (ah := none) (rs := [some (.no), some (.no), some (.no)]) (kt := [0, 1, 5]) (ko := []) (T' := [(0, .sl (List.map LI_s a0)), (1, .int .i64 r_4_5), (5, .int .i64 (wr (i_4 + 1)))]) (O' := []) (by kernel_rfl) trivial (by kernel_rfl) (by kernel_rfl) ?_
      refine loopQ_norm ?_
      exact (laws_heldIntSS_l0_ih _ _ h c hc)
  · refine Wp.condF (b := (decide (i_4 < (a0.length : Int)))) (by kernel_rfl) (by kernel_rfl) hb_5 ?_
    refine Wp.exitN (i := 0) (by kernel_rfl) ?_
    refine seqQ_exit ?_
    refine loopQ_exit ?_
    obtain rfl := Option.some.inj h
    exact Into.view (fun a w hv => SRx.renL [] hv (by kernel_rfl) (by kernel_rfl) (by kernel_rfl))
def laws_heldIntSS (p : (List (List Int)) × Int) : Option (Int) :=
  match p with
  | (a0, k1) =>
    (laws_heldIntSS_l0 (a0, k1, 0)) >>= fun fl => match fl with
    | .inl k_7 =>
      some k_7
    | .inr r =>
      some r
def M_laws_heldIntSS (p : (List (List Int)) × Int) (r : Int) : Prop :=
  match p with
  | (a0, k1) => FnSound Try.prog 41 [.sl (List.map LI_s a0), .int .i64 k1] (.int .i64 r) []
theorem laws_heldIntSS_s : ∀ p r, laws_heldIntSS p = some r → M_laws_heldIntSS p r := by
  rintro ⟨a0, k1⟩ r h
  unfold laws_heldIntSS at h
  show FnSound Try.prog 41 [.sl (List.map LI_s a0), .int .i64 k1] (.int .i64 r) []
  refine FnSound.body0 tiok (fn := Try.f41) (code := B41) (by kernel_rfl) (by kernel_rfl) (by kernel_rfl) (by kernel_rfl) (nt := 21) (by kernel_rfl) (by kernel_rfl) (T := [(0, .sl (List.map LI_s a0)), (1, .int .i64 k1)]) (O := []) (by kernel_rfl) (by kernel_rfl) (fun c hc => ?_)
  refine Wp.seqN (by kernel_rfl) ?_
  refine Wp.reg tiok mix hc (by kernel_rfl) (ah := none) (rs := [some (.no)]) (kt := [0, 1]) (ko := []) (T' := [(0, .sl (List.map LI_s a0)), (1, .int .i64 k1)]) (O' := []) (by kernel_rfl) trivial (by kernel_rfl) (by kernel_rfl) ?_
  refine seqQ_norm ?_
  refine Wp.seqN (by kernel_rfl) ?_
  refine Wp.seqN (by kernel_rfl) ?_
  refine Wp.reg tiok mix hc (by kernel_rfl) (ah := none) (rs := [some (.no)]) (kt := [0, 1, 5]) (ko := []) (T' := [(0, .sl (List.map LI_s a0)), (1, .int .i64 k1), (5, .int .i64 0)]) (O' := []) (by kernel_rfl) trivial (by kernel_rfl) (by kernel_rfl) ?_
  refine seqQ_norm ?_
  refine Wp.blockN (i := 0) (by kernel_rfl) ?_
  obtain ⟨fl, hl_8, h⟩ := bsome h
  have hL := laws_heldIntSS_l0_s _ _ hl_8 c hc
  refine Wp.loopN (by kernel_rfl) ?_
  rcases fl with k_7 | r
  · refine WpL.into (e := (.exit 0)) (mkS [(1, .int .i64 k_7)] []) hL ?_
    refine blockQ_hit ?_
    refine seqQ_norm ?_
    refine Wp.seqN (by kernel_rfl) ?_
    refine Wp.reg tiok mix hc (by kernel_rfl) (ah := none) (rs := [some (.no), some (.no)]) (kt := [4]) (ko := []) (T' := [(4, .int .i64 k_7)]) (O' := []) (by kernel_rfl) trivial (by kernel_rfl) (by kernel_rfl) ?_
    refine seqQ_norm ?_
    refine Wp.retN (by kernel_rfl) ?_
    obtain rfl := Option.some.inj h
    exact RetQ.ret (fl := [true]) (by kernel_rfl)
  · refine WpL.mono hL ?_
    rintro _ _ ⟨rfl, hfin⟩
    refine blockQ_ret ?_
    refine seqQ_ret ?_
    obtain rfl := Option.some.inj h
    exact ⟨.inl rfl, hfin⟩
def laws_FnExactRedexesOf (aT0 : GTerm) : Option (Bool) :=
    (laws_szTerm (aT0, 1048576)) >>= fun r_2_2 =>
    if (decide (r_2_2 < 0)) = true then
      some true
    else
      (laws_toTerm aT0) >>= fun r_5_1 =>
      (spec_RedexesOf r_5_1) >>= fun r_5_2 =>
      (laws_toTerm aT0) >>= fun r_6_1 =>
      (impl_RedexesOf r_6_1) >>= fun r_7_1 =>
      (laws_eqIntSS (r_7_1, r_5_2)) >>= fun r_8_2 =>
      if r_8_2 = true then
        (laws_toTerm aT0) >>= fun r_10_2 =>
        (laws_eqTerm (r_6_1, r_10_2)) >>= fun r_10_3 =>
        if r_10_3 = true then
          (laws_markTerm (r_6_1, 1)) >>= fun (r_13_2, o_13_2_0) =>
          (
            if (decide (r_13_2 < 0)) = true then
              some (true)
            else
              (laws_eqIntSS (r_7_1, r_5_2)) >>= fun r_14_5 =>
              some ((!r_14_5))
          ) >>= fun v_4 =>
          if v_4 = true then
            some false
          else
            (laws_markIntSS (r_7_1, 1)) >>= fun (r_17_2, o_17_2_0) =>
            (laws_heldIntSS (o_17_2_0, 1)) >>= fun r_19_2 =>
            if (decide (r_19_2 < 0)) = true then
              some false
            else
              if (r_19_2 != r_17_2) = true then
                some false
              else
                (laws_toTerm aT0) >>= fun r_24_1 =>
                (impl_RedexesOf r_24_1) >>= fun r_24_2 =>
                (laws_eqIntSS (r_24_2, r_5_2)) >>= fun r_25_2 =>
                if r_25_2 = true then
                  (laws_heldIntSS (o_17_2_0, 1)) >>= fun r_28_2 =>
                  if (decide (r_28_2 < 0)) = true then
                    some false
                  else
                    if (r_28_2 != r_17_2) = true then
                      some false
                    else
                      some true
                else
                  some false
        else
          some false
      else
        some false
def M_laws_FnExactRedexesOf (aT0 : GTerm) (r : Bool) : Prop :=
  FnSound Try.prog 9 [.agg [.int .i64 aT0.fOp, .int .i64 aT0.fN, .sl (List.map I aT0.fType), .sl (List.map GTerm_S aT0.fKids)]] (.bool r) []
theorem laws_FnExactRedexesOf_s : ∀ p r, laws_FnExactRedexesOf p = some r → M_laws_FnExactRedexesOf p r := by
  rintro aT0 r h
  unfold laws_FnExactRedexesOf at h
  show FnSound Try.prog 9 [.agg [.int .i64 aT0.fOp, .int .i64 aT0.fN, .sl (List.map I aT0.fType), .sl (List.map GTerm_S aT0.fKids)]] (.bool r) []
  refine FnSound.body0 tiok (fn := Try.f9) (code := B9) (by kernel_rfl) (by kernel_rfl) (by kernel_rfl) (by kernel_rfl) (nt := 69) (by kernel_rfl) (by kernel_rfl) (T := [(0, .agg [.int .i64 aT0.fOp, .int .i64 aT0.fN, .sl (List.map I aT0.fType), .sl (List.map GTerm_S aT0.fKids)])]) (O := []) (by kernel_rfl) (by kernel_rfl) (fun c hc => ?_)
  refine Wp.seqN (by kernel_rfl) ?_
  refine Wp.reg tiok mix hc (by kernel_rfl) (ah := none) (rs := [some (.new 1), some (.no)]) (kt := [1]) (ko := [1]) (T' := [(1, .ra 1 0)]) (O' := [(1, .box [.int .i64 aT0.fOp, .int .i64 aT0.fN, .sl (List.map I aT0.fType), .sl (List.map GTerm_S aT0.fKids)])]) (by kernel_rfl) trivial (by kernel_rfl) (by kernel_rfl) ?_
  refine seqQ_norm ?_
  refine Wp.seqN (by kernel_rfl) ?_
  refine Wp.reg tiok mix hc (by kernel_rfl) (ah := none) (rs := [some (.no)]) (kt := [1, 3]) (ko := [1]) (T' := [(1, .ra 1 0), (3, .int .i64 1048576)]) (O' := [(1, .box [.int .i64 aT0.fOp, .int .i64 aT0.fN, .sl (List.map I aT0.fType), .sl (List.map GTerm_S aT0.fKids)])]) (by kernel_rfl) trivial (by kernel_rfl) (by kernel_rfl) ?_
  refine seqQ_norm ?_
  refine Wp.seqN (by kernel_rfl) ?_
  obtain ⟨r_2_2, hr_2_2, h⟩ := bsome h
  refine Wp.reg tiok mix hc (by kernel_rfl) (ah := none) (rs := [some (.no), some (.no), some (.call (.int .i64 r_2_2) [] 1), some (.no)]) (kt := [1, 3]) (ko := [1]) (T' := [(1, .ra 1 0), (3, .int .i64 r_2_2)]) (O' := [(1, .box [.int .i64 aT0.fOp, .int .i64 aT0.fN, .sl (List.map I aT0.fType), .sl (List.map GTerm_S aT0.fKids)])]) (by kernel_rfl) (And.intro (laws_szTerm_s _ _ hr_2_2) (And.intro bod_19 (And.intro (Or.inl rfl : ([] : List Nat) = [] ∨ noSh (.int .i64 r_2_2) = true) trivial))) (by kernel_rfl) (by kernel_rfl) ?_
  refine seqQ_norm ?_
  refine Wp.seqN (by kernel_rfl) ?_
  refine Wp.seqN (by kernel_rfl) ?_
  refine Wp.reg tiok mix hc (by kernel_rfl) (ah := none) (rs := [some (.no), some (.no)]) (kt := [1, 15]) (ko := [1]) (T' := [(1, .ra 1 0), (15, .bool (decide (r_2_2 < 0)))]) (O' := [(1, .box [.int .i64 aT0.fOp, .int .i64 aT0.fN, .sl (List.map I aT0.fType), .sl (List.map GTerm_S aT0.fKids)])]) (by kernel_rfl) trivial (by kernel_rfl) (by kernel_rfl) ?_
  refine seqQ_norm ?_
  rcases itesome h with ⟨hb_1, h⟩ | ⟨hb_1, h⟩
  · refine Wp.condT (b := (decide (r_2_2 < 0))) (by kernel_rfl) (by kernel_rfl) hb_1 ?_
    refine Wp.seqN (by kernel_rfl) ?_
    refine Wp.reg tiok mix hc (by kernel_rfl) (ah := none) (rs := [some (.no)]) (kt := [2]) (ko := []) (T' := [(2, .bool true)]) (O' := []) (by kernel_rfl) trivial (by kernel_rfl) (by kernel_rfl) ?_
    refine seqQ_norm ?_
    refine Wp.retN (by kernel_rfl) ?_
    refine seqQ_ret ?_
    obtain rfl := Option.some.inj h
    exact RetQ.ret (fl := [true]) (by kernel_rfl)
  · refine Wp.condF (b := (decide (r_2_2 < 0))) (by kernel_rfl) (by kernel_rfl) hb_1 ?_
    refine Wp.skipN (by kernel_rfl) ?_
    refine seqQ_norm ?_
    refine Wp.seqN (by kernel_rfl) ?_
    obtain ⟨r_5_1, hr_5_1, h⟩ := bsome h
    obtain ⟨r_5_2, hr_5_2, h⟩ := bsome h
    refine Wp.reg tiok mix hc (by kernel_rfl) (ah := none) (rs := [some (.no), some (.call (.agg [.int .i64 r_5_1.fOp, .int .i64 r_5_1.fN, .osl (List.map I r_5_1.fType), .osl (List.map GTerm_O r_5_1.fKids)]) [] 2), some (.call (.osl (List.map LI_o r_5_2)) [] 4), some (.no)]) (kt := [1, 4]) (ko := [1, 4]) (T' := [(1, .ra 1 0), (4, .rs 4)]) (O' := [(1, .box [.int .i64 aT0.fOp, .int .i64 aT0.fN, .sl (List.map I aT0.fType), .sl (List.map GTerm_S aT0.fKids)]), (4, .arr (List.map LI_o r_5_2))]) (by kernel_rfl) (And.intro (laws_toTerm_s _ _ hr_5_1) (And.intro bod_21 (And.intro (Or.inl rfl : ([] : List Nat) = [] ∨ noSh (.agg [.int .i64 r_5_1.fOp, .int .i64 r_5_1.fN, .osl (List.map I r_5_1.fType), .osl (List.map GTerm_O r_5_1.fKids)]) = true) (And.intro (FnSound.args (A1 := [.agg [.int .i64 r_5_1.fOp, .int .i64 r_5_1.fN, .sl (shares (List.map I r_5_1.fType)), .sl (shares (List.map GTerm_O r_5_1.fKids))]]) (A2 := [.agg [.int .i64 r_5_1.fOp, .int .i64 r_5_1.fN, .sl (List.map I r_5_1.fType), .sl (List.map GTerm_S r_5_1.fKids)]]) (by simp only [List.map_nil, sh_GTerm_O, sh_I]) (spec_RedexesOf_s _ _ hr_5_2)) (And.intro bod_37 (And.intro (Or.inr (nsh_row nsh_LI_o r_5_2) : ([2, 3] : List Nat) = [] ∨ noSh (.osl (List.map LI_o r_5_2)) = true) trivial)))))) (by kernel_rfl) (by kernel_rfl) ?_
    refine seqQ_norm ?_
    refine Wp.seqN (by kernel_rfl) ?_
    obtain ⟨r_6_1, hr_6_1, h⟩ := bsome h
    refine Wp.reg tiok mix hc (by kernel_rfl) (ah := none) (rs := [some (.no), some (.call (.agg [.int .i64 r_6_1.fOp, .int .i64 r_6_1.fN, .osl (List.map I r_6_1.fType), .osl (List.map GTerm_O r_6_1.fKids)]) [] 5), some (.new 7), some (.no)]) (kt := [1, 4, 5]) (ko := [1, 4, 5, 6, 7]) (T' := [(1, .ra 1 0), (4, .rs 4), (5, .ra 7 0)]) (O' := [(1, .box [.int .i64 aT0.fOp, .int .i64 aT0.fN, .sl (List.map I aT0.fType), .sl (List.map GTerm_S aT0.fKids)]), (4, .arr (List.map LI_o r_5_2)), (5, .arr (List.map I r_6_1.fType)), (6, .arr (List.map GTerm_O r_6_1.fKids)), (7, .box [.int .i64 r_6_1.fOp, .int .i64 r_6_1.fN, .rs 5, .rs 6])]) (by kernel_rfl) (And.intro (laws_toTerm_s _ _ hr_6_1) (And.intro bod_21 (And.intro (Or.inl rfl : ([] : List Nat) = [] ∨ noSh (.agg [.int .i64 r_6_1.fOp, .int .i64 r_6_1.fN, .osl (List.map I r_6_1.fType), .osl (List.map GTerm_O r_6_1.fKids)]) = true) trivial))) (by kernel_rfl) (by kernel_rfl) ?_
    refine seqQ_norm ?_
    refine Wp.seqN (by kernel_rfl) ?_
    obtain ⟨r_7_1, hr_7_1, h⟩ := bsome h
    refine Wp.reg tiok mix hc (by kernel_rfl) (ah := none) (rs := [some (.no), some (.call (.osl (List.map LI_o r_7_1)) [] 8), some (.no)]) (kt := [1, 4, 5, 6]) (ko := [1, 4, 5, 6, 7, 8]) (T' := [(1, .ra 1 0), (4, .rs 4), (5, .ra 7 0), (6, .rs 8)]) (O' := [(1, .box [.int .i64 aT0.fOp, .int .i64 aT0.fN, .sl (List.map I aT0.fType), .sl (List.map GTerm_S aT0.fKids)]), (4, .arr (List.map LI_o r_5_2)), (5, .arr (List.map I r_6_1.fType)), (6, .arr (List.map GTerm_O r_6_1.fKids)), (7, .box [.int .i64 r_6_1.fOp, .int .i64 r_6_1.fN, .rs 5, .rs 6]), (8, .arr (List.map LI_o r_7_1))]) (by kernel_rfl) (And.intro (FnSound.args (A1 := [.agg [.int .i64 r_6_1.fOp, .int .i64 r_6_1.fN, .sl (shares (List.map I r_6_1.fType)), .sl (shares (List.map GTerm_O r_6_1.fKids))]]) (A2 := [.agg [.int .i64 r_6_1.fOp, .int .i64 r_6_1.fN, .sl (List.map I r_6_1.fType), .sl (List.map GTerm_S r_6_1.fKids)]]) (by simp only [List.map_nil, sh_GTerm_O, sh_I]) (impl_RedexesOf_s _ _ hr_7_1)) (And.intro bod_38 (And.intro (Or.inr (nsh_row nsh_LI_o r_7_1) : ([5, 6] : List Nat) = [] ∨ noSh (.osl (List.map LI_o r_7_1)) = true) trivial))) (by kernel_rfl) (by kernel_rfl) ?_
    refine seqQ_norm ?_
    refine Wp.seqN (by kernel_rfl) ?_
    refine Wp.seqN (by kernel_rfl) ?_
    obtain ⟨r_8_2, hr_8_2, h⟩ := bsome h
    refine Wp.reg tiok mix hc (by kernel_rfl) (ah := none) (rs := [some (.no), some (.no), some (.call (.bool r_8_2) [] 1), some (.no)]) (kt := [1, 4, 5, 6, 26]) (ko := [1, 4, 5, 6, 7, 8]) (T' := [(1, .ra 1 0), (4, .rs 4), (5, .ra 7 0), (6, .rs 8), (26, .bool (!r_8_2))]) (O' := [(1, .box [.int .i64 aT0.fOp, .int .i64 aT0.fN, .sl (List.map I aT0.fType), .sl (List.map GTerm_S aT0.fKids)]), (4, .arr (List.map LI_o r_5_2)), (5, .arr (List.map I r_6_1.fType)), (6, .arr (List.map GTerm_O r_6_1.fKids)), (7, .box [.int .i64 r_6_1.fOp, .int .i64 r_6_1.fN, .rs 5, .rs 6]), (8, .arr (List.map LI_o r_7_1))]) (by kernel_rfl) (And.intro (FnSound.args (A1 := [.sl (shares (List.map LI_o r_7_1)), .sl (shares (List.map LI_o r_5_2))]) (A2 := [.sl (List.map LI_s r_7_1), .sl (List.map LI_s r_5_2)]) (by simp only [List.map_nil, sh_LI_o]) (laws_eqIntSS_s _ _ hr_8_2)) (And.intro bod_39 (And.intro (Or.inr rfl : ([8, 4] : List Nat) = [] ∨ noSh (.bool r_8_2) = true) trivial))) (by kernel_rfl) (by kernel_rfl) ?_
    refine seqQ_norm ?_
    rcases itesome h with ⟨hb_2, h⟩ | ⟨hb_2, h⟩
    · refine Wp.condF (b := (!r_8_2)) (by kernel_rfl) (by kernel_rfl) (nF hb_2) ?_
      refine Wp.skipN (by kernel_rfl) ?_
      refine seqQ_norm ?_
      refine Wp.seqN (by kernel_rfl) ?_
      refine Wp.seqN (by kernel_rfl) ?_
      obtain ⟨r_10_2, hr_10_2, h⟩ := bsome h
      obtain ⟨r_10_3, hr_10_3, h⟩ := bsome h
      refine Wp.reg tiok mix hc (by kernel_rfl) (ah := (some [[], [], [1], [0, 1, 2], [0, 1, 2, 3]])) (rs := [some (.no), some (.no), some (.call (.agg [.int .i64 r_10_2.fOp, .int .i64 r_10_2.fN, .osl (List.map I r_10_2.fType), .osl (List.map GTerm_O r_10_2.fKids)]) [] 9), some (.call (.bool r_10_3) [] 1), some (.no)]) (kt := [1, 4, 5, 6, 31]) (ko := [1, 4, 5, 6, 7, 8]) (T' := [(1, .ra 1 0), (4, .rs 4), (5, .ra 7 0), (6, .rs 8), (31, .bool (!r_10_3))]) (O' := [(1, .box [.int .i64 aT0.fOp, .int .i64 aT0.fN, .sl (List.map I aT0.fType), .sl (List.map GTerm_S aT0.fKids)]), (4, .arr (List.map LI_o r_5_2)), (5, .arr (List.map I r_6_1.fType)), (6, .arr (List.map GTerm_O r_6_1.fKids)), (7, .box [.int .i64 r_6_1.fOp, .int .i64 r_6_1.fN, .rs 5, .rs 6]), (8, .arr (List.map LI_o r_7_1))]) (by kernel_rfl) (And.intro (laws_toTerm_s _ _ hr_10_2) (And.intro bod_21 (And.intro (Or.inl rfl : ([] : List Nat) = [] ∨ noSh (.agg [.int .i64 r_10_2.fOp, .int .i64 r_10_2.fN, .osl (List.map I r_10_2.fType), .osl (List.map GTerm_O r_10_2.fKids)]) = true) (And.intro (FnSound.args (A1 := [.agg [.int .i64 r_6_1.fOp, .int .i64 r_6_1.fN, .sl (shares (List.map I r_6_1.fType)), .sl (shares (List.map GTerm_O r_6_1.fKids))], .agg [.int .i64 r_10_2.fOp, .int .i64 r_10_2.fN, .sl (shares (List.map I r_10_2.fType)), .sl (shares (List.map GTerm_O r_10_2.fKids))]]) (A2 := [.agg [.int .i64 r_6_1.fOp, .int .i64 r_6_1.fN, .sl (List.map I r_6_1.fType), .sl (List.map GTerm_S r_6_1.fKids)], .agg [.int .i64 r_10_2.fOp, .int .i64 r_10_2.fN, .sl (List.map I r_10_2.fType), .sl (List.map GTerm_S r_10_2.fKids)]]) (by simp only [List.map_nil, sh_GTerm_O, sh_I]) (laws_eqTerm_s _ _ hr_10_3)) (And.intro bod_23 (And.intro (Or.inr rfl : ([5, 6, 9, 10] : List Nat) = [] ∨ noSh (.bool r_10_3) = true) trivial)))))) (by kernel_rfl) (by kernel_rfl) ?_
      refine seqQ_norm ?_
      rcases itesome h with ⟨hb_3, h⟩ | ⟨hb_3, h⟩
      · refine Wp.condF (b := (!r_10_3)) (by kernel_rfl) (by kernel_rfl) (nF hb_3) ?_
        refine Wp.skipN (by kernel_rfl) ?_
        refine seqQ_norm ?_
        refine Wp.seqN (by kernel_rfl) ?_
        refine Wp.reg tiok mix hc (by kernel_rfl) (ah := none) (rs := [some (.no)]) (kt := [1, 4, 5, 6, 7]) (ko := [1, 4, 5, 6, 7, 8]) (T' := [(1, .ra 1 0), (4, .rs 4), (5, .ra 7 0), (6, .rs 8), (7, .int .i64 1)]) (O' := [(1, .box [.int .i64 aT0.fOp, .int .i64 aT0.fN, .sl (List.map I aT0.fType), .sl (List.map GTerm_S aT0.fKids)]), (4, .arr (List.map LI_o r_5_2)), (5, .arr (List.map I r_6_1.fType)), (6, .arr (List.map GTerm_O r_6_1.fKids)), (7, .box [.int .i64 r_6_1.fOp, .int .i64 r_6_1.fN, .rs 5, .rs 6]), (8, .arr (List.map LI_o r_7_1))]) (by kernel_rfl) trivial (by kernel_rfl) (by kernel_rfl) ?_
        refine seqQ_norm ?_
        refine Wp.seqN (by kernel_rfl) ?_
        obtain ⟨⟨r_13_2, o_13_2_0⟩, hr_13_2, h⟩ := bsome h
        refine Wp.reg tiok mix hc (by kernel_rfl) (ah := none) (rs := [some (.no), some (.no), some (.call (.int .i64 r_13_2) [.agg [.undef, .undef, .osl (List.map I o_13_2_0.fType), .osl (List.map GTerm_O o_13_2_0.fKids)], .undef] 1), some (.no)]) (kt := [1, 4, 6, 7]) (ko := [1, 4, 8]) (T' := [(1, .ra 1 0), (4, .rs 4), (6, .rs 8), (7, .int .i64 r_13_2)]) (O' := [(1, .box [.int .i64 aT0.fOp, .int .i64 aT0.fN, .sl (List.map I aT0.fType), .sl (List.map GTerm_S aT0.fKids)]), (4, .arr (List.map LI_o r_5_2)), (8, .arr (List.map LI_o r_7_1))]) (by kernel_rfl) (And.intro (laws_markTerm_s _ _ hr_13_2) (And.intro bod_32 trivial)) (by kernel_rfl) (by kernel_rfl) ?_
        refine seqQ_norm ?_
        refine Wp.seqN (by kernel_rfl) ?_
        refine Wp.seqN (by kernel_rfl) ?_
        obtain ⟨v_4, hj_5, h⟩ := bsome h
        refine Wp.into (x := .normal) (mkS [(1, .ra 1 0), (4, .rs 4), (6, .rs 8), (42, .bool v_4)] [(1, .box [.int .i64 aT0.fOp, .int .i64 aT0.fN, .sl (List.map I aT0.fType), .sl (List.map GTerm_S aT0.fKids)]), (4, .arr (List.map LI_o r_5_2)), (8, .arr (List.map LI_o r_7_1))]) ?_ ?_
        · replace h := hj_5
          rcases itesome h with ⟨hb_14_0, h⟩ | ⟨hb_14_0, h⟩
          · refine Wp.reg tiok mix hc (by kernel_rfl) (ah := none) (rs := [some (.no), some (.no), some (.no), none, none, none, none, some (.cond true)]) (kt := [1, 4, 6, 42]) (ko := [1, 4, 8]) (T' := [(1, .ra 1 0), (4, .rs 4), (6, .rs 8), (42, .bool true)]) (O' := [(1, .box [.int .i64 aT0.fOp, .int .i64 aT0.fN, .sl (List.map I aT0.fType), .sl (List.map GTerm_S aT0.fKids)]), (4, .arr (List.map LI_o r_5_2)), (8, .arr (List.map LI_o r_7_1))]) (by kernel_rfl) (And.intro (neF hb_14_0 : (decide (r_13_2 < 0)) ≠ false) (And.intro (neF hb_14_0 : (decide (r_13_2 < 0)) ≠ false) (And.intro (neF hb_14_0 : (decide (r_13_2 < 0)) ≠ false) (And.intro (neF hb_14_0 : (decide (r_13_2 < 0)) ≠ false) (And.intro hb_14_0 trivial))))) (by kernel_rfl) (by kernel_rfl) ?_
            obtain rfl := Option.some.inj h
            exact Into.mk
          · obtain ⟨r_14_5, hr_14_5, h⟩ := bsome h
            refine Wp.reg tiok mix hc (by kernel_rfl) (ah := none) (rs := [some (.no), some (.no), some (.no), some (.no), some (.no), some (.call (.bool r_14_5) [] 1), some (.no), some (.cond false)]) (kt := [1, 4, 6, 42]) (ko := [1, 4, 8]) (T' := [(1, .ra 1 0), (4, .rs 4), (6, .rs 8), (42, .bool (!r_14_5))]) (O' := [(1, .box [.int .i64 aT0.fOp, .int .i64 aT0.fN, .sl (List.map I aT0.fType), .sl (List.map GTerm_S aT0.fKids)]), (4, .arr (List.map LI_o r_5_2)), (8, .arr (List.map LI_o r_7_1))]) (by kernel_rfl) (And.intro hb_14_0 (And.intro hb_14_0 (And.intro hb_14_0 (And.intro (FnSound.args (A1 := [.sl (shares (List.map LI_o r_7_1)), .sl (shares (List.map LI_o r_5_2))]) (A2 := [.sl (List.map LI_s r_7_1), .sl (List.map LI_s r_5_2)]) (by simp only [List.map_nil, sh_LI_o]) (laws_eqIntSS_s _ _ hr_14_5)) (And.intro bod_39 (And.intro (Or.inr rfl : ([8, 4] : List Nat) = [] ∨ noSh (.bool r_14_5) = true) (And.intro hb_14_0 (And.intro hb_14_0 trivial)))))))) (by kernel_rfl) (by kernel_rfl) ?_
            obtain rfl := Option.some.inj h
            exact Into.mk
        · clear hj_5
          refine seqQ_norm ?_
          rcases itesome h with ⟨hb_6, h⟩ | ⟨hb_6, h⟩
          · refine Wp.condT (b := v_4) (by kernel_rfl) (by kernel_rfl) hb_6 ?_
            refine Wp.seqN (by kernel_rfl) ?_
            refine Wp.reg tiok mix hc (by kernel_rfl) (ah := none) (rs := [some (.no)]) (kt := [2]) (ko := []) (T' := [(2, .bool false)]) (O' := []) (by kernel_rfl) trivial (by kernel_rfl) (by kernel_rfl) ?_
            refine seqQ_norm ?_
            refine Wp.retN (by kernel_rfl) ?_
            refine seqQ_ret ?_
            obtain rfl := Option.some.inj h
            exact RetQ.ret (fl := [true]) (by kernel_rfl)
          · refine Wp.condF (b := v_4) (by kernel_rfl) (by kernel_rfl) hb_6 ?_
            refine Wp.skipN (by kernel_rfl) ?_
            refine seqQ_norm ?_
            refine Wp.seqN (by kernel_rfl) ?_
            refine Wp.reg tiok mix hc (by kernel_rfl) (ah := none) (rs := [some (.no)]) (kt := [1, 4, 6, 8]) (ko := [1, 4, 8]) (T' := [(1, .ra 1 0), (4, .rs 4), (6, .rs 8), (8, .int .i64 1)]) (O' := [(1, .box [.int .i64 aT0.fOp, .int .i64 aT0.fN, .sl (List.map I aT0.fType), .sl (List.map GTerm_S aT0.fKids)]), (4, .arr (List.map LI_o r_5_2)), (8, .arr (List.map LI_o r_7_1))]) (by kernel_rfl) trivial (by kernel_rfl) (by kernel_rfl) ?_
            refine seqQ_norm ?_
            refine Wp.seqN (by kernel_rfl) ?_
            obtain ⟨⟨r_17_2, o_17_2_0⟩, hr_17_2, h⟩ := bsome h
            refine Wp.reg tiok mix hc (by kernel_rfl) (ah := none) (rs := [some (.no), some (.no), some (.call (.int .i64 r_17_2) [.osl (List.map LI_o o_17_2_0), .undef] 1), some (.no)]) (kt := [1, 4, 6, 8]) (ko := [1, 4, 8]) (T' := [(1, .ra 1 0), (4, .rs 4), (6, .rs 8), (8, .int .i64 r_17_2)]) (O' := [(1, .box [.int .i64 aT0.fOp, .int .i64 aT0.fN, .sl (List.map I aT0.fType), .sl (List.map GTerm_S aT0.fKids)]), (4, .arr (List.map LI_o r_5_2)), (8, .arr (List.map LI_o o_17_2_0))]) (by kernel_rfl) (And.intro (laws_markIntSS_s _ _ hr_17_2) (And.intro bod_40 trivial)) (by kernel_rfl) (by kernel_rfl) ?_
            refine seqQ_norm ?_
            refine Wp.seqN (by kernel_rfl) ?_
            refine Wp.reg tiok mix hc (by kernel_rfl) (ah := none) (rs := [some (.no)]) (kt := [1, 4, 6, 8, 9]) (ko := [1, 4, 8]) (T' := [(1, .ra 1 0), (4, .rs 4), (6, .rs 8), (8, .int .i64 r_17_2), (9, .int .i64 1)]) (O' := [(1, .box [.int .i64 aT0.fOp, .int .i64 aT0.fN, .sl (List.map I aT0.fType), .sl (List.map GTerm_S aT0.fKids)]), (4, .arr (List.map LI_o r_5_2)), (8, .arr (List.map LI_o o_17_2_0))]) (by kernel_rfl) trivial (by kernel_rfl) (by kernel_rfl) ?_
            refine seqQ_norm ?_
            refine Wp.seqN (by kernel_rfl) ?_
            obtain ⟨r_19_2, hr_19_2, h⟩ := bsome h
            refine Wp.reg tiok mix hc (by kernel_rfl) (ah := none) (rs := [some (.no), some (.no), some (.call (.int .i64 r_19_2) [] 1), some (.no)]) (kt := [1, 4, 6, 8, 9]) (ko := [1, 4, 8]) (T' := [(1, .ra 1 0), (4, .rs 4), (6, .rs 8), (8, .int .i64 r_17_2), (9, .int .i64 r_19_2)]) (O' := [(1, .box [.int .i64 aT0.fOp, .int .i64 aT0.fN, .sl (List.map I aT0.fType), .sl (List.map GTerm_S aT0.fKids)]), (4, .arr (List.map LI_o r_5_2)), (8, .arr (List.map LI_o o_17_2_0))]) (by kernel_rfl) (And.intro (FnSound.args (A1 := [.sl (shares (List.map LI_o o_17_2_0)), .int .i64 1]) (A2 := [.sl (List.map LI_s o_17_2_0), .int .i64 1]) (by simp only [List.map_nil, sh_LI_o]) (laws_heldIntSS_s _ _ hr_19_2)) (And.intro bod_41 (And.intro (Or.inr rfl : ([8] : List Nat) = [] ∨ noSh (.int .i64 r_19_2) = true) trivial))) (by kernel_rfl) (by kernel_rfl) ?_
            refine seqQ_norm ?_
            refine Wp.seqN (by kernel_rfl) ?_
            refine Wp.seqN (by kernel_rfl) ?_
            refine Wp.reg tiok mix hc (by kernel_rfl) (ah := none) (rs := [some (.no), some (.no)]) (kt := [1, 4, 6, 8, 9, 50]) (ko := [1, 4, 8]) (T' := [(1, .ra 1 0), (4, .rs 4), (6, .rs 8), (8, .int .i64 r_17_2), (9, .int .i64 r_19_2), (50, .bool (decide (r_19_2 < 0)))]) (O' := [(1, .box [.int .i64 aT0.fOp, .int .i64 aT0.fN, .sl (List.map I aT0.fType), .sl (List.map GTerm_S aT0.fKids)]), (4, .arr (List.map LI_o r_5_2)), (8, .arr (List.map LI_o o_17_2_0))]) (by kernel_rfl) trivial (by kernel_rfl) (by kernel_rfl) ?_
            refine seqQ_norm ?_
            rcases itesome h with ⟨hb_7, h⟩ | ⟨hb_7, h⟩
            · refine Wp.condT (b := (decide (r_19_2 < 0))) (by kernel_rfl) (by kernel_rfl) hb_7 ?_
              refine Wp.seqN (by kernel_rfl) ?_
              refine Wp.reg tiok mix hc (by kernel_rfl) (ah := none) (rs := [some (.no)]) (kt := [2]) (ko := []) (T' := [(2, .bool false)]) (O' := []) (by kernel_rfl) trivial (by kernel_rfl) (by kernel_rfl) ?_
              refine seqQ_norm ?_
              refine Wp.retN (by kernel_rfl) ?_
              refine seqQ_ret ?_
              obtain rfl := Option.some.inj h
              exact RetQ.ret (fl := [true]) (by kernel_rfl)
            · refine Wp.condF (b := (decide (r_19_2 < 0))) (by kernel_rfl) (by kernel_rfl) hb_7 ?_
              refine Wp.skipN (by kernel_rfl) ?_
              refine seqQ_norm ?_
              refine Wp.seqN (by kernel_rfl) ?_
              refine Wp.seqN (by kernel_rfl) ?_
              refine Wp.reg tiok mix hc (by kernel_rfl) (ah := none) (rs := [some (.no), some (.no), some (.no)]) (kt := [1, 4, 6, 8, 53]) (ko := [1, 4, 8]) (T' := [(1, .ra 1 0), (4, .rs 4), (6, .rs 8), (8, .int .i64 r_17_2), (53, .bool (r_19_2 != r_17_2))]) (O' := [(1, .box [.int .i64 aT0.fOp, .int .i64 aT0.fN, .sl (List.map I aT0.fType), .sl (List.map GTerm_S aT0.fKids)]), (4, .arr (List.map LI_o r_5_2)), (8, .arr (List.map LI_o o_17_2_0))]) (by kernel_rfl) trivial (by kernel_rfl) (by kernel_rfl) ?_
              refine seqQ_norm ?_
              rcases itesome h with ⟨hb_8, h⟩ | ⟨hb_8, h⟩
              · refine Wp.condT (b := (r_19_2 != r_17_2)) (by kernel_rfl) (by kernel_rfl) hb_8 ?_
                refine Wp.seqN (by kernel_rfl) ?_
                refine Wp.reg tiok mix hc (by kernel_rfl) (ah := none) (rs := [some (.no)]) (kt := [2]) (ko := []) (T' := [(2, .bool false)]) (O' := []) (by kernel_rfl) trivial (by kernel_rfl) (by kernel_rfl) ?_
                refine seqQ_norm ?_
                refine Wp.retN (by kernel_rfl) ?_
                refine seqQ_ret ?_
                obtain rfl := Option.some.inj h
                exact RetQ.ret (fl := [true]) (by kernel_rfl)
              · refine Wp.condF (b := (r_19_2 != r_17_2)) (by kernel_rfl) (by kernel_rfl) hb_8 ?_
                refine Wp.skipN (by kernel_rfl) ?_
                refine seqQ_norm ?_
                refine Wp.seqN (by kernel_rfl) ?_
                obtain ⟨r_24_1, hr_24_1, h⟩ := bsome h
                obtain ⟨r_24_2, hr_24_2, h⟩ := bsome h
                refine Wp.reg tiok mix hc (by kernel_rfl) (ah := none) (rs := [some (.no), some (.call (.agg [.int .i64 r_24_1.fOp, .int .i64 r_24_1.fN, .osl (List.map I r_24_1.fType), .osl (List.map GTerm_O r_24_1.fKids)]) [] 11), some (.call (.osl (List.map LI_o r_24_2)) [] 13), some (.no)]) (kt := [4, 6, 8, 10]) (ko := [4, 8, 13]) (T' := [(4, .rs 4), (6, .rs 8), (8, .int .i64 r_17_2), (10, .rs 13)]) (O' := [(4, .arr (List.map LI_o r_5_2)), (8, .arr (List.map LI_o o_17_2_0)), (13, .arr (List.map LI_o r_24_2))]) (by kernel_rfl) (And.intro (laws_toTerm_s _ _ hr_24_1) (And.intro bod_21 (And.intro (Or.inl rfl : ([] : List Nat) = [] ∨ noSh (.agg [.int .i64 r_24_1.fOp, .int .i64 r_24_1.fN, .osl (List.map I r_24_1.fType), .osl (List.map GTerm_O r_24_1.fKids)]) = true) (And.intro (FnSound.args (A1 := [.agg [.int .i64 r_24_1.fOp, .int .i64 r_24_1.fN, .sl (shares (List.map I r_24_1.fType)), .sl (shares (List.map GTerm_O r_24_1.fKids))]]) (A2 := [.agg [.int .i64 r_24_1.fOp, .int .i64 r_24_1.fN, .sl (List.map I r_24_1.fType), .sl (List.map GTerm_S r_24_1.fKids)]]) (by simp only [List.map_nil, sh_GTerm_O, sh_I]) (impl_RedexesOf_s _ _ hr_24_2)) (And.intro bod_38 (And.intro (Or.inr (nsh_row nsh_LI_o r_24_2) : ([11, 12] : List Nat) = [] ∨ noSh (.osl (List.map LI_o r_24_2)) = true) trivial)))))) (by kernel_rfl) (by kernel_rfl) ?_
                refine seqQ_norm ?_
                refine Wp.seqN (by kernel_rfl) ?_
                refine Wp.seqN (by kernel_rfl) ?_
                obtain ⟨r_25_2, hr_25_2, h⟩ := bsome h
                refine Wp.reg tiok mix hc (by kernel_rfl) (ah := none) (rs := [some (.no), some (.no), some (.call (.bool r_25_2) [] 1), some (.no)]) (kt := [6, 8, 60]) (ko := [8]) (T' := [(6, .rs 8), (8, .int .i64 r_17_2), (60, .bool (!r_25_2))]) (O' := [(8, .arr (List.map LI_o o_17_2_0))]) (by kernel_rfl) (And.intro (FnSound.args (A1 := [.sl (shares (List.map LI_o r_24_2)), .sl (shares (List.map LI_o r_5_2))]) (A2 := [.sl (List.map LI_s r_24_2), .sl (List.map LI_s r_5_2)]) (by simp only [List.map_nil, sh_LI_o]) (laws_eqIntSS_s _ _ hr_25_2)) (And.intro bod_39 (And.intro (Or.inr rfl : ([13, 4] : List Nat) = [] ∨ noSh (.bool r_25_2) = true) trivial))) (by kernel_rfl) (by kernel_rfl) ?_
                refine seqQ_norm ?_
                rcases itesome h with ⟨hb_9, h⟩ | ⟨hb_9, h⟩
                · refine Wp.condF (b := (!r_25_2)) (by kernel_rfl) (by kernel_rfl) (nF hb_9) ?_
                  refine Wp.skipN (by kernel_rfl) ?_
                  refine seqQ_norm ?_
                  refine Wp.seqN (by kernel_rfl) ?_
                  refine Wp.reg tiok mix hc (by kernel_rfl) (ah := none) (rs := [some (.no)]) (kt := [6, 8, 9]) (ko := [8]) (T' := [(6, .rs 8), (8, .int .i64 r_17_2), (9, .int .i64 1)]) (O' := [(8, .arr (List.map LI_o o_17_2_0))]) (by kernel_rfl) trivial (by kernel_rfl) (by kernel_rfl) ?_
                  refine seqQ_norm ?_
                  refine Wp.seqN (by kernel_rfl) ?_
                  obtain ⟨r_28_2, hr_28_2, h⟩ := bsome h
                  refine Wp.reg tiok mix hc (by kernel_rfl) (ah := none) (rs := [some (.no), some (.no), some (.call (.int .i64 r_28_2) [] 1), some (.no)]) (kt := [8, 9]) (ko := []) (T' := [(8, .int .i64 r_17_2), (9, .int .i64 r_28_2)]) (O' := []) (by kernel_rfl) (And.intro (FnSound.args (A1 := [.sl (shares (List.map LI_o o_17_2_0)), .int .i64 1]) (A2 := [.sl (List.map LI_s o_17_2_0), .int .i64 1]) (by simp only [List.map_nil, sh_LI_o]) (laws_heldIntSS_s _ _ hr_28_2)) (And.intro bod_41 (And.intro (Or.inr rfl : ([8] : List Nat) = [] ∨ noSh (.int .i64 r_28_2) = true) trivial))) (by kernel_rfl) (by kernel_rfl) ?_
                  refine seqQ_norm ?_
                  refine Wp.seqN (by kernel_rfl) ?_
                  refine Wp.seqN (by kernel_rfl) ?_
                  refine Wp.reg tiok mix hc (by kernel_rfl) (ah := none) (rs := [some (.no), some (.no)]) (kt := [8, 9, 65]) (ko := []) (T' := [(8, .int .i64 r_17_2), (9, .int .i64 r_28_2), (65, .bool (decide (r_28_2 < 0)))]) (O' := []) (by kernel_rfl) trivial (by kernel_rfl) (by kernel_rfl) ?_
                  refine seqQ_norm ?_
                  rcases itesome h with ⟨hb_10, h⟩ | ⟨hb_10, h⟩
                  · refine Wp.condT (b := (decide (r_28_2 < 0))) (by kernel_rfl) (by kernel_rfl) hb_10 ?_
                    refine Wp.seqN (by kernel_rfl) ?_
                    refine Wp.reg tiok mix hc (by kernel_rfl) (ah := none) (rs := [some (.no)]) (kt := [2]) (ko := []) (T' := [(2, .bool false)]) (O' := []) (by kernel_rfl) trivial (by kernel_rfl) (by kernel_rfl) ?_
                    refine seqQ_norm ?_
                    refine Wp.retN (by kernel_rfl) ?_
                    refine seqQ_ret ?_
                    obtain rfl := Option.some.inj h
                    exact RetQ.ret (fl := [true]) (by kernel_rfl)
                  · refine Wp.condF (b := (decide (r_28_2 < 0))) (by kernel_rfl) (by kernel_rfl) hb_10 ?_
                    refine Wp.skipN (by kernel_rfl) ?_
                    refine seqQ_norm ?_
                    refine Wp.seqN (by kernel_rfl) ?_
                    refine Wp.seqN (by kernel_rfl) ?_
                    refine Wp.reg tiok mix hc (by kernel_rfl) (ah := none) (rs := [some (.no), some (.no), some (.no)]) (kt := [68]) (ko := []) (T' := [(68, .bool (r_28_2 != r_17_2))]) (O' := []) (by kernel_rfl) trivial (by kernel_rfl) (by kernel_rfl) ?_
                    refine seqQ_norm ?_
                    rcases itesome h with ⟨hb_11, h⟩ | ⟨hb_11, h⟩
                    · refine Wp.condT (b := (r_28_2 != r_17_2)) (by kernel_rfl) (by kernel_rfl) hb_11 ?_
                      refine Wp.seqN (by kernel_rfl) ?_
                      refine Wp.reg tiok mix hc (by kernel_rfl) (ah := none) (rs := [some (.no)]) (kt := [2]) (ko := []) (T' := [(2, .bool false)]) (O' := []) (by kernel_rfl) trivial (by kernel_rfl) (by kernel_rfl) ?_
                      refine seqQ_norm ?_
                      refine Wp.retN (by kernel_rfl) ?_
                      refine seqQ_ret ?_
                      obtain rfl := Option.some.inj h
                      exact RetQ.ret (fl := [true]) (by kernel_rfl)
                    · refine Wp.condF (b := (r_28_2 != r_17_2)) (by kernel_rfl) (by kernel_rfl) hb_11 ?_
                      refine Wp.skipN (by kernel_rfl) ?_
                      refine seqQ_norm ?_
                      refine Wp.seqN (by kernel_rfl) ?_
                      refine Wp.reg tiok mix hc (by kernel_rfl) (ah := none) (rs := [some (.no)]) (kt := [2]) (ko := []) (T' := [(2, .bool true)]) (O' := []) (by kernel_rfl) trivial (by kernel_rfl) (by kernel_rfl) ?_
                      refine seqQ_norm ?_
                      refine Wp.retN (by kernel_rfl) ?_
                      obtain rfl := Option.some.inj h
                      exact RetQ.ret (fl := [true]) (by kernel_rfl)
                · refine Wp.condT (b := (!r_25_2)) (by kernel_rfl) (by kernel_rfl) (nT hb_9) ?_
                  refine Wp.seqN (by kernel_rfl) ?_
                  refine Wp.reg tiok mix hc (by kernel_rfl) (ah := none) (rs := [some (.no)]) (kt := [2]) (ko := []) (T' := [(2, .bool false)]) (O' := []) (by kernel_rfl) trivial (by kernel_rfl) (by kernel_rfl) ?_
                  refine seqQ_norm ?_
                  refine Wp.retN (by kernel_rfl) ?_
                  refine seqQ_ret ?_
                  obtain rfl := Option.some.inj h
                  exact RetQ.ret (fl := [true]) (by kernel_rfl)
      · refine Wp.condT (b := (!r_10_3)) (by kernel_rfl) (by kernel_rfl) (nT hb_3) ?_
        refine Wp.seqN (by kernel_rfl) ?_
        refine Wp.reg tiok mix hc (by kernel_rfl) (ah := none) (rs := [some (.no)]) (kt := [2]) (ko := []) (T' := [(2, .bool false)]) (O' := []) (by kernel_rfl) trivial (by kernel_rfl) (by kernel_rfl) ?_
        refine seqQ_norm ?_
        refine Wp.retN (by kernel_rfl) ?_
        refine seqQ_ret ?_
        obtain rfl := Option.some.inj h
        exact RetQ.ret (fl := [true]) (by kernel_rfl)
    · refine Wp.condT (b := (!r_8_2)) (by kernel_rfl) (by kernel_rfl) (nT hb_2) ?_
      refine Wp.seqN (by kernel_rfl) ?_
      refine Wp.reg tiok mix hc (by kernel_rfl) (ah := none) (rs := [some (.no)]) (kt := [2]) (ko := []) (T' := [(2, .bool false)]) (O' := []) (by kernel_rfl) trivial (by kernel_rfl) (by kernel_rfl) ?_
      refine seqQ_norm ?_
      refine Wp.retN (by kernel_rfl) ?_
      refine seqQ_ret ?_
      obtain rfl := Option.some.inj h
      exact RetQ.ret (fl := [true]) (by kernel_rfl)
end Go.Am
