/- Functions of the program as pure functions, and that it computes them. Printed by a program of mine (gen.py). -/
import Derived.Test.YtfakfcaegabgaaaGIVF6
set_option linter.unusedVariables false
set_option linter.unusedSimpArgs false
set_option maxRecDepth 100000
namespace Go.Am
open Go Go.Proofs
mutual
def laws_eqTerm (p : GTerm × GTerm) : Option (Bool) :=
  match p with
  | (a0, b1) =>
    if (a0.fOp != b1.fOp) = true then
      some false
    else
      if (a0.fN != b1.fN) = true then
        some false
      else
        (laws_eqIntS (a0.fType, b1.fType)) >>= fun r_5_4 =>
        if r_5_4 = true then
          (laws_eqTermS (a0.fKids, b1.fKids)) >>= fun r_7_4 =>
          if r_7_4 = true then
            some true
          else
            some false
        else
          some false
  partial_fixpoint
def laws_eqTermS (p : (List GTerm) × (List GTerm)) : Option (Bool) :=
  match p with
  | (a0, b1) =>
    if ((a0.length : Int) != (b1.length : Int)) = true then
      some false
    else
      (laws_eqTermS_l0 (a0, b1, 0)) >>= fun fl => match fl with
      | .inl () =>
        some true
      | .inr r =>
        some r
  partial_fixpoint
def laws_eqTermS_l0 (p : (List GTerm) × (List GTerm) × Int) : Option ((Unit) ⊕ (Bool)) :=
  match p with
  | (a0, b1, i_4) =>
    if (decide (i_4 < (a0.length : Int))) = true then
      (idx a0 i_4) >>= fun e_6_2 =>
      (idx b1 i_4) >>= fun e_6_6 =>
      (laws_eqTerm (e_6_2, e_6_6)) >>= fun r_6_8 =>
      if r_6_8 = true then
        laws_eqTermS_l0 (a0, b1, (wr (i_4 + 1)))
      else
        some (.inr false)
    else
      some (.inl ())
  partial_fixpoint
end
def M_laws_eqTerm (p : GTerm × GTerm) (r : Bool) : Prop :=
  match p with
  | (a0, b1) => FnSound Try.prog 16 [.agg [.int .i64 a0.fOp, .int .i64 a0.fN, .sl (List.map I a0.fType), .sl (List.map GTerm_S a0.fKids)], .agg [.int .i64 b1.fOp, .int .i64 b1.fN, .sl (List.map I b1.fType), .sl (List.map GTerm_S b1.fKids)]] (.bool r) []
def M_laws_eqTermS (p : (List GTerm) × (List GTerm)) (r : Bool) : Prop :=
  match p with
  | (a0, b1) => FnSound Try.prog 49 [.sl (List.map GTerm_S a0), .sl (List.map GTerm_S b1)] (.bool r) []
def M_laws_eqTermS_l0 (p : (List GTerm) × (List GTerm) × Int) (fl : (Unit) ⊕ (Bool)) : Prop :=
  match p with
  | (a0, b1, i_4) => ∀ c : Ctx, c.nt = 27 → WpL Try.prog c (cl (cl (cr (cl (cr (cr B49)))))) (laws_eqTermS_F1 c fl) (mkS [(0, .sl (List.map GTerm_S a0)), (1, .sl (List.map GTerm_S b1)), (5, .int .i64 i_4)] [])
theorem laws_eqTerm_all : (∀ p r, laws_eqTerm p = some r → M_laws_eqTerm p r) ∧ (∀ p r, laws_eqTermS p = some r → M_laws_eqTermS p r) ∧ (∀ p r, laws_eqTermS_l0 p = some r → M_laws_eqTermS_l0 p r) := by
  refine laws_eqTerm.mutual_partial_correctness M_laws_eqTerm M_laws_eqTermS M_laws_eqTermS_l0 ?_ ?_ ?_
  · rintro laws_eqTermS_f laws_eqTermS_ih ⟨a0, b1⟩ r h
    show FnSound Try.prog 16 [.agg [.int .i64 a0.fOp, .int .i64 a0.fN, .sl (List.map I a0.fType), .sl (List.map GTerm_S a0.fKids)], .agg [.int .i64 b1.fOp, .int .i64 b1.fN, .sl (List.map I b1.fType), .sl (List.map GTerm_S b1.fKids)]] (.bool r) []
    refine FnSound.body0 tiok (fn := Try.f16) (code := B16) (by kernel_rfl) (by kernel_rfl) (by kernel_rfl) (by kernel_rfl) (nt := 27) (by kernel_rfl) (by kernel_rfl) (T := [(0, .agg [.int .i64 a0.fOp, .int .i64 a0.fN, .sl (List.map I a0.fType), .sl (List.map GTerm_S a0.fKids)]), (1, .agg [.int .i64 b1.fOp, .int .i64 b1.fN, .sl (List.map I b1.fType), .sl (List.map GTerm_S b1.fKids)])]) (O := []) (by kernel_rfl) (by kernel_rfl) (fun c hc => ?_)
    refine Wp.seqN (by kernel_rfl) ?_
    refine Wp.reg tiok mix hc (by kernel_rfl) (ah := none) (rs := [some (.new 1), some (.new 2), some (.no)]) (kt := [2, 3]) (ko := [1, 2]) (T' := [(2, .ra 1 0), (3, .ra 2 0)]) (O' := [(1, .box [.int .i64 a0.fOp, .int .i64 a0.fN, .sl (List.map I a0.fType), .sl (List.map GTerm_S a0.fKids)]), (2, .box [.int .i64 b1.fOp, .int .i64 b1.fN, .sl (List.map I b1.fType), .sl (List.map GTerm_S b1.fKids)])]) (by kernel_rfl) trivial (by kernel_rfl) (by kernel_rfl) ?_
    refine seqQ_norm ?_
    refine Wp.seqN (by kernel_rfl) ?_
    refine Wp.seqN (by kernel_rfl) ?_
    refine Wp.reg tiok mix hc (by kernel_rfl) (ah := none) (rs := [some (.no), some (.no), some (.no), some (.no), some (.no)]) (kt := [2, 3, 9]) (ko := [1, 2]) (T' := [(2, .ra 1 0), (3, .ra 2 0), (9, .bool (a0.fOp != b1.fOp))]) (O' := [(1, .box [.int .i64 a0.fOp, .int .i64 a0.fN, .sl (List.map I a0.fType), .sl (List.map GTerm_S a0.fKids)]), (2, .box [.int .i64 b1.fOp, .int .i64 b1.fN, .sl (List.map I b1.fType), .sl (List.map GTerm_S b1.fKids)])]) (by kernel_rfl) trivial (by kernel_rfl) (by kernel_rfl) ?_
    refine seqQ_norm ?_
    rcases itesome h with ⟨hb_1, h⟩ | ⟨hb_1, h⟩
    · refine Wp.condT (b := (a0.fOp != b1.fOp)) (by kernel_rfl) (by kernel_rfl) hb_1 ?_
      refine Wp.seqN (by kernel_rfl) ?_
      refine Wp.reg tiok mix hc (by kernel_rfl) (ah := none) (rs := [some (.no)]) (kt := [4]) (ko := []) (T' := [(4, .bool false)]) (O' := []) (by kernel_rfl) trivial (by kernel_rfl) (by kernel_rfl) ?_
      refine seqQ_norm ?_
      refine Wp.retN (by kernel_rfl) ?_
      refine seqQ_ret ?_
      obtain rfl := Option.some.inj h
      exact RetQ.ret (fl := [true]) (by kernel_rfl)
    · refine Wp.condF (b := (a0.fOp != b1.fOp)) (by kernel_rfl) (by kernel_rfl) hb_1 ?_
      refine Wp.skipN (by kernel_rfl) ?_
      refine seqQ_norm ?_
      refine Wp.seqN (by kernel_rfl) ?_
      refine Wp.seqN (by kernel_rfl) ?_
      refine Wp.reg tiok mix hc (by kernel_rfl) (ah := none) (rs := [some (.no), some (.no), some (.no), some (.no), some (.no)]) (kt := [2, 3, 14]) (ko := [1, 2]) (T' := [(2, .ra 1 0), (3, .ra 2 0), (14, .bool (a0.fN != b1.fN))]) (O' := [(1, .box [.int .i64 a0.fOp, .int .i64 a0.fN, .sl (List.map I a0.fType), .sl (List.map GTerm_S a0.fKids)]), (2, .box [.int .i64 b1.fOp, .int .i64 b1.fN, .sl (List.map I b1.fType), .sl (List.map GTerm_S b1.fKids)])]) (by kernel_rfl) trivial (by kernel_rfl) (by kernel_rfl) ?_
      refine seqQ_norm ?_
      rcases itesome h with ⟨hb_2, h⟩ | ⟨hb_2, h⟩
      · refine Wp.condT (b := (a0.fN != b1.fN)) (by kernel_rfl) (by kernel_rfl) hb_2 ?_
        refine Wp.seqN (by kernel_rfl) ?_
        refine Wp.reg tiok mix hc (by kernel_rfl) (ah := none) (rs := [some (.no)]) (kt := [4]) (ko := []) (T' := [(4, .bool false)]) (O' := []) (by kernel_rfl) trivial (by kernel_rfl) (by kernel_rfl) ?_
        refine seqQ_norm ?_
        refine Wp.retN (by kernel_rfl) ?_
        refine seqQ_ret ?_
        obtain rfl := Option.some.inj h
        exact RetQ.ret (fl := [true]) (by kernel_rfl)
      · refine Wp.condF (b := (a0.fN != b1.fN)) (by kernel_rfl) (by kernel_rfl) hb_2 ?_
        refine Wp.skipN (by kernel_rfl) ?_
        refine seqQ_norm ?_
        refine Wp.seqN (by kernel_rfl) ?_
        refine Wp.seqN (by kernel_rfl) ?_
        obtain ⟨r_5_4, hr_5_4, h⟩ := bsome h
        refine Wp.reg tiok mix hc (by kernel_rfl) (ah := none) (rs := [some (.no), some (.no), some (.no), some (.no), some (.call (.bool r_5_4) [] 1), some (.no)]) (kt := [2, 3, 20]) (ko := [1, 2]) (T' := [(2, .ra 1 0), (3, .ra 2 0), (20, .bool (!r_5_4))]) (O' := [(1, .box [.int .i64 a0.fOp, .int .i64 a0.fN, .sl (List.map I a0.fType), .sl (List.map GTerm_S a0.fKids)]), (2, .box [.int .i64 b1.fOp, .int .i64 b1.fN, .sl (List.map I b1.fType), .sl (List.map GTerm_S b1.fKids)])]) (by kernel_rfl) (And.intro (laws_eqIntS_s _ _ hr_5_4) (And.intro bod_18 (And.intro (Or.inl rfl : ([] : List Nat) = [] ∨ noSh (.bool r_5_4) = true) trivial))) (by kernel_rfl) (by kernel_rfl) ?_
        refine seqQ_norm ?_
        rcases itesome h with ⟨hb_3, h⟩ | ⟨hb_3, h⟩
        · refine Wp.condF (b := (!r_5_4)) (by kernel_rfl) (by kernel_rfl) (nF hb_3) ?_
          refine Wp.skipN (by kernel_rfl) ?_
          refine seqQ_norm ?_
          refine Wp.seqN (by kernel_rfl) ?_
          refine Wp.seqN (by kernel_rfl) ?_
          obtain ⟨r_7_4, hr_7_4, h⟩ := bsome h
          refine Wp.reg tiok mix hc (by kernel_rfl) (ah := none) (rs := [some (.no), some (.no), some (.no), some (.no), some (.call (.bool r_7_4) [] 1), some (.no)]) (kt := [26]) (ko := []) (T' := [(26, .bool (!r_7_4))]) (O' := []) (by kernel_rfl) (And.intro (laws_eqTermS_ih _ _ hr_7_4) (And.intro bod_49 (And.intro (Or.inl rfl : ([] : List Nat) = [] ∨ noSh (.bool r_7_4) = true) trivial))) (by kernel_rfl) (by kernel_rfl) ?_
          refine seqQ_norm ?_
          rcases itesome h with ⟨hb_4, h⟩ | ⟨hb_4, h⟩
          · refine Wp.condF (b := (!r_7_4)) (by kernel_rfl) (by kernel_rfl) (nF hb_4) ?_
            refine Wp.skipN (by kernel_rfl) ?_
            refine seqQ_norm ?_
            refine Wp.seqN (by kernel_rfl) ?_
            refine Wp.reg tiok mix hc (by kernel_rfl) (ah := none) (rs := [some (.no)]) (kt := [4]) (ko := []) (T' := [(4, .bool true)]) (O' := []) (by kernel_rfl) trivial (by kernel_rfl) (by kernel_rfl) ?_
            refine seqQ_norm ?_
            refine Wp.retN (by kernel_rfl) ?_
            obtain rfl := Option.some.inj h
            exact RetQ.ret (fl := [true]) (by kernel_rfl)
          · refine Wp.condT (b := (!r_7_4)) (by kernel_rfl) (by kernel_rfl) (nT hb_4) ?_
            refine Wp.seqN (by kernel_rfl) ?_
            refine Wp.reg tiok mix hc (by kernel_rfl) (ah := none) (rs := [some (.no)]) (kt := [4]) (ko := []) (T' := [(4, .bool false)]) (O' := []) (by kernel_rfl) trivial (by kernel_rfl) (by kernel_rfl) ?_
            refine seqQ_norm ?_
            refine Wp.retN (by kernel_rfl) ?_
            refine seqQ_ret ?_
            obtain rfl := Option.some.inj h
            exact RetQ.ret (fl := [true]) (by kernel_rfl)
        · refine Wp.condT (b := (!r_5_4)) (by kernel_rfl) (by kernel_rfl) (nT hb_3) ?_
          refine Wp.seqN (by kernel_rfl) ?_
          refine Wp.reg tiok mix hc (by kernel_rfl) (ah := none) (rs := [some (.no)]) (kt := [4]) (ko := []) (T' := [(4, .bool false)]) (O' := []) (by kernel_rfl) trivial (by kernel_rfl) (by kernel_rfl) ?_
          refine seqQ_norm ?_
          refine Wp.retN (by kernel_rfl) ?_
          refine seqQ_ret ?_
          obtain rfl := Option.some.inj h
          exact RetQ.ret (fl := [true]) (by kernel_rfl)
  · rintro laws_eqTermS_l0_f laws_eqTermS_l0_ih ⟨a0, b1⟩ r h
    show FnSound Try.prog 49 [.sl (List.map GTerm_S a0), .sl (List.map GTerm_S b1)] (.bool r) []
    refine FnSound.body0 tiok (fn := Try.f49) (code := B49) (by kernel_rfl) (by kernel_rfl) (by kernel_rfl) (by kernel_rfl) (nt := 27) (by kernel_rfl) (by kernel_rfl) (T := [(0, .sl (List.map GTerm_S a0)), (1, .sl (List.map GTerm_S b1))]) (O := []) (by kernel_rfl) (by kernel_rfl) (fun c hc => ?_)
    refine Wp.seqN (by kernel_rfl) ?_
    refine Wp.reg tiok mix hc (by kernel_rfl) (ah := none) (rs := [some (.no)]) (kt := [0, 1]) (ko := []) (T' := [(0, .sl (List.map GTerm_S a0)), (1, .sl (List.map GTerm_S b1))]) (O' := []) (by kernel_rfl) trivial (by kernel_rfl) (by kernel_rfl) ?_
    refine seqQ_norm ?_
    refine Wp.seqN (by kernel_rfl) ?_
    refine Wp.seqN (by kernel_rfl) ?_
    refine Wp.reg tiok mix hc (by kernel_rfl) (ah := none) (rs := [some (.no), some (.eqv (.no) ⟨[(7, .int .i64 (a0.length : Int))], [], []⟩), some (.no), some (.eqv (.no) ⟨[(9, .int .i64 (b1.length : Int))], [], []⟩), some (.no)]) (kt := [0, 1, 10]) (ko := []) (T' := [(0, .sl (List.map GTerm_S a0)), (1, .sl (List.map GTerm_S b1)), (10, .bool ((a0.length : Int) != (b1.length : Int)))]) (O' := []) (by kernel_rfl) (And.intro (lenT (d := 7) GTerm_S a0) (And.intro (lenT (d := 9) GTerm_S b1) trivial)) (by kernel_rfl) (by kernel_rfl) ?_
    refine seqQ_norm ?_
    rcases itesome h with ⟨hb_1, h⟩ | ⟨hb_1, h⟩
    · refine Wp.condT (b := ((a0.length : Int) != (b1.length : Int))) (by kernel_rfl) (by kernel_rfl) hb_1 ?_
      refine Wp.seqN (by kernel_rfl) ?_
      refine Wp.reg tiok mix hc (by kernel_rfl) (ah := none) (rs := [some (.no)]) (kt := [4]) (ko := []) (T' := [(4, .bool false)]) (O' := []) (by kernel_rfl) trivial (by kernel_rfl) (by kernel_rfl) ?_
      refine seqQ_norm ?_
      refine Wp.retN (by kernel_rfl) ?_
      refine seqQ_ret ?_
      obtain rfl := Option.some.inj h
      exact RetQ.ret (fl := [true]) (by kernel_rfl)
    · refine Wp.condF (b := ((a0.length : Int) != (b1.length : Int))) (by kernel_rfl) (by kernel_rfl) hb_1 ?_
      refine Wp.skipN (by kernel_rfl) ?_
      refine seqQ_norm ?_
      refine Wp.seqN (by kernel_rfl) ?_
      refine Wp.seqN (by kernel_rfl) ?_
      refine Wp.reg tiok mix hc (by kernel_rfl) (ah := none) (rs := [some (.no)]) (kt := [0, 1, 5]) (ko := []) (T' := [(0, .sl (List.map GTerm_S a0)), (1, .sl (List.map GTerm_S b1)), (5, .int .i64 0)]) (O' := []) (by kernel_rfl) trivial (by kernel_rfl) (by kernel_rfl) ?_
      refine seqQ_norm ?_
      refine Wp.blockN (i := 0) (by kernel_rfl) ?_
      obtain ⟨fl, hl_7, h⟩ := bsome h
      have hL := laws_eqTermS_l0_ih _ _ hl_7 c hc
      refine Wp.loopN (by kernel_rfl) ?_
      rcases fl with ⟨⟩ | r
      · refine WpL.into (e := (.exit 0)) (mkS [] []) hL ?_
        refine blockQ_hit ?_
        refine seqQ_norm ?_
        refine Wp.seqN (by kernel_rfl) ?_
        refine Wp.reg tiok mix hc (by kernel_rfl) (ah := none) (rs := [some (.no)]) (kt := [4]) (ko := []) (T' := [(4, .bool true)]) (O' := []) (by kernel_rfl) trivial (by kernel_rfl) (by kernel_rfl) ?_
        refine seqQ_norm ?_
        refine Wp.retN (by kernel_rfl) ?_
        obtain rfl := Option.some.inj h
        exact RetQ.ret (fl := [true]) (by kernel_rfl)
      · refine WpL.mono hL ?_
        rintro _ _ ⟨rfl, hfin⟩
        refine blockQ_ret ?_
        refine seqQ_ret ?_
        obtain rfl := Option.some.inj h
        exact ⟨.inl rfl, hfin⟩
  · rintro laws_eqTerm_f laws_eqTermS_l0_f laws_eqTerm_ih laws_eqTermS_l0_ih ⟨a0, b1, i_4⟩ r h
    intro c hc
    show WpL Try.prog c (cl (cl (cr (cl (cr (cr B49)))))) (laws_eqTermS_F1 c r) (mkS [(0, .sl (List.map GTerm_S a0)), (1, .sl (List.map GTerm_S b1)), (5, .int .i64 i_4)] [])
    refine WpL.step ?_
    refine Wp.seqN (by kernel_rfl) ?_
    refine Wp.seqN (by kernel_rfl) ?_
    refine Wp.reg tiok mix hc (by kernel_rfl) (ah := none) (rs := [some (.no), some (.no), some (.eqv (.no) ⟨[(13, .int .i64 (a0.length : Int))], [], []⟩), some (.no)]) (kt := [0, 1, 5, 14]) (ko := []) (T' := [(0, .sl (List.map GTerm_S a0)), (1, .sl (List.map GTerm_S b1)), (5, .int .i64 i_4), (14, .bool (decide (i_4 < (a0.length : Int))))]) (O' := []) (by kernel_rfl) (And.intro (lenT (d := 13) GTerm_S a0) trivial) (by kernel_rfl) (by kernel_rfl) ?_
    refine seqQ_norm ?_
    rcases itesome h with ⟨hb_5, h⟩ | ⟨hb_5, h⟩
    · refine Wp.condT (b := (decide (i_4 < (a0.length : Int)))) (by kernel_rfl) (by kernel_rfl) hb_5 ?_
      refine Wp.skipN (by kernel_rfl) ?_
      refine seqQ_norm ?_
      refine Wp.seqN (by kernel_rfl) ?_
      refine Wp.blockN (i := 1) (by kernel_rfl) ?_
      refine Wp.seqN (by kernel_rfl) ?_
      obtain ⟨e_6_2, hi_6_2, h⟩ := bsome h
      obtain ⟨e_6_6, hi_6_6, h⟩ := bsome h
      obtain ⟨r_6_8, hr_6_8, h⟩ := bsome h
      refine Wp.reg tiok mix hc (by kernel_rfl) (ah := (some [[], [], [0, 1], [0, 1, 2], [], [], [4, 5], [4, 5, 6], [0, 1, 2, 3, 4, 5, 6, 7], [0, 1, 2, 3, 4, 5, 6, 7, 8]])) (rs := [some (.no), some (.no), some (.el (.agg [.int .i64 e_6_2.fOp, .int .i64 e_6_2.fN, .sl (List.map I e_6_2.fType), .sl (List.map GTerm_S e_6_2.fKids)])), some (.no), some (.no), some (.no), some (.el (.agg [.int .i64 e_6_6.fOp, .int .i64 e_6_6.fN, .sl (List.map I e_6_6.fType), .sl (List.map GTerm_S e_6_6.fKids)])), some (.no), some (.call (.bool r_6_8) [] 1), some (.no)]) (kt := [0, 1, 5, 26]) (ko := []) (T' := [(0, .sl (List.map GTerm_S a0)), (1, .sl (List.map GTerm_S b1)), (5, .int .i64 i_4), (26, .bool (!r_6_8))]) (O' := []) (by kernel_rfl) (And.intro (idx_sl (enc := GTerm_S) (x := .agg [.int .i64 e_6_2.fOp, .int .i64 e_6_2.fN, .sl (List.map I e_6_2.fType), .sl (List.map GTerm_S e_6_2.fKids)]) hi_6_2 (eq_GTerm_S e_6_2)) (And.intro (idx_sl (enc := GTerm_S) (x := .agg [.int .i64 e_6_6.fOp, .int .i64 e_6_6.fN, .sl (List.map I e_6_6.fType), .sl (List.map GTerm_S e_6_6.fKids)]) hi_6_6 (eq_GTerm_S e_6_6)) (And.intro (laws_eqTerm_ih _ _ hr_6_8) (And.intro bod_16 (And.intro (Or.inl rfl : ([] : List Nat) = [] ∨ noSh (.bool r_6_8) = true) trivial))))) (by kernel_rfl) (by kernel_rfl) ?_
      refine seqQ_norm ?_
      rcases itesome h with ⟨hb_6, h⟩ | ⟨hb_6, h⟩
      · refine Wp.condF (b := (!r_6_8)) (by kernel_rfl) (by kernel_rfl) (nF hb_6) ?_
        refine Wp.skipN (by kernel_rfl) ?_
        refine blockQ_norm ?_
        refine seqQ_norm ?_
        refine Wp.reg tiok mix hc (by kernel_rfl) (ah := none) (rs := [some (.no), some (.no), some (.no)]) (kt := [0, 1, 5]) (ko := []) (T' := [(0, .sl (List.map GTerm_S a0)), (1, .sl (List.map GTerm_S b1)), (5, .int .i64 (wr (i_4 + 1)))]) (O' := []) (by kernel_rfl) trivial (by kernel_rfl) (by kernel_rfl) ?_
        refine loopQ_norm ?_
        exact (laws_eqTermS_l0_ih _ _ h c hc)
      · refine Wp.condT (b := (!r_6_8)) (by kernel_rfl) (by kernel_rfl) (nT hb_6) ?_
        refine Wp.seqN (by kernel_rfl) ?_
        refine Wp.reg tiok mix hc (by kernel_rfl) (ah := none) (rs := [some (.no)]) (kt := [4]) (ko := []) (T' := [(4, .bool false)]) (O' := []) (by kernel_rfl) trivial (by kernel_rfl) (by kernel_rfl) ?_
        refine seqQ_norm ?_
        refine Wp.retN (by kernel_rfl) ?_
        refine blockQ_ret ?_
        refine seqQ_ret ?_
        refine loopQ_ret ?_
        obtain rfl := Option.some.inj h
        exact RetE.ret (fl := [true]) (by kernel_rfl)
    · refine Wp.condF (b := (decide (i_4 < (a0.length : Int)))) (by kernel_rfl) (by kernel_rfl) hb_5 ?_
      refine Wp.exitN (i := 0) (by kernel_rfl) ?_
      refine seqQ_exit ?_
      refine loopQ_exit ?_
      obtain rfl := Option.some.inj h
      exact Into.view (fun a w hv => SRx.renL [] hv (by kernel_rfl) (by kernel_rfl) (by kernel_rfl))
theorem laws_eqTerm_s : ∀ p r, laws_eqTerm p = some r → M_laws_eqTerm p r := laws_eqTerm_all.1
theorem laws_eqTermS_s : ∀ p r, laws_eqTermS p = some r → M_laws_eqTermS p r := laws_eqTerm_all.2.1
theorem laws_eqTermS_l0_s : ∀ p r, laws_eqTermS_l0 p = some r → M_laws_eqTermS_l0 p r := laws_eqTerm_all.2.2
def laws_FnExactIsValue (p : GSystem × (List Int) × GTerm) : Option (Bool) :=
  match p with
  | (aS0, aTy1, aV2) =>
    if (decide ((aTy1.length : Int) > 1048576)) = true then
      some true
    else
      (laws_szSystem (aS0, 1048576)) >>= fun r_4_2 =>
      if (decide (r_4_2 < 0)) = true then
        some true
      else
        (laws_szTerm (aV2, r_4_2)) >>= fun r_7_2 =>
        if (decide (r_7_2 < 0)) = true then
          some true
        else
          (laws_toSystem aS0) >>= fun r_10_1 =>
          (laws_toIntS aTy1) >>= fun r_10_3 =>
          (laws_toTerm aV2) >>= fun r_10_5 =>
          (spec_IsValue (r_10_1, r_10_3, r_10_5)) >>= fun r_10_6 =>
          (laws_toSystem aS0) >>= fun r_11_1 =>
          (laws_toIntS aTy1) >>= fun r_12_1 =>
          (laws_toTerm aV2) >>= fun r_13_1 =>
          (impl_IsValue (r_11_1, r_12_1, r_13_1)) >>= fun r_14_3 =>
          if (r_14_3 == r_10_6) = true then
            (laws_toSystem aS0) >>= fun r_17_2 =>
            (laws_eqSystem (r_11_1, r_17_2)) >>= fun r_17_3 =>
            if r_17_3 = true then
              (laws_toIntS aTy1) >>= fun r_19_2 =>
              (laws_eqIntS (r_12_1, r_19_2)) >>= fun r_19_3 =>
              if r_19_3 = true then
                (laws_toTerm aV2) >>= fun r_21_2 =>
                (laws_eqTerm (r_13_1, r_21_2)) >>= fun r_21_3 =>
                if r_21_3 = true then
                  some true
                else
                  some false
              else
                some false
            else
              some false
          else
            some false
def M_laws_FnExactIsValue (p : GSystem × (List Int) × GTerm) (r : Bool) : Prop :=
  match p with
  | (aS0, aTy1, aV2) => FnSound Try.prog 6 [.agg [.int .i64 aS0.fSize, .sl (List.map I aS0.fPlus), .sl (List.map I aS0.fTimes), .sl (List.map AV.bool aS0.fBelow)], .sl (List.map I aTy1), .agg [.int .i64 aV2.fOp, .int .i64 aV2.fN, .sl (List.map I aV2.fType), .sl (List.map GTerm_S aV2.fKids)]] (.bool r) []
theorem laws_FnExactIsValue_s : ∀ p r, laws_FnExactIsValue p = some r → M_laws_FnExactIsValue p r := by
  rintro ⟨aS0, aTy1, aV2⟩ r h
  unfold laws_FnExactIsValue at h
  show FnSound Try.prog 6 [.agg [.int .i64 aS0.fSize, .sl (List.map I aS0.fPlus), .sl (List.map I aS0.fTimes), .sl (List.map AV.bool aS0.fBelow)], .sl (List.map I aTy1), .agg [.int .i64 aV2.fOp, .int .i64 aV2.fN, .sl (List.map I aV2.fType), .sl (List.map GTerm_S aV2.fKids)]] (.bool r) []
  refine FnSound.body0 tiok (fn := Try.f6) (code := B6) (by kernel_rfl) (by kernel_rfl) (by kernel_rfl) (by kernel_rfl) (nt := 61) (by kernel_rfl) (by kernel_rfl) (T := [(0, .agg [.int .i64 aS0.fSize, .sl (List.map I aS0.fPlus), .sl (List.map I aS0.fTimes), .sl (List.map AV.bool aS0.fBelow)]), (1, .sl (List.map I aTy1)), (2, .agg [.int .i64 aV2.fOp, .int .i64 aV2.fN, .sl (List.map I aV2.fType), .sl (List.map GTerm_S aV2.fKids)])]) (O := []) (by kernel_rfl) (by kernel_rfl) (fun c hc => ?_)
  refine Wp.seqN (by kernel_rfl) ?_
  refine Wp.reg tiok mix hc (by kernel_rfl) (ah := none) (rs := [some (.new 1), some (.new 2), some (.no)]) (kt := [1, 3, 5]) (ko := [1, 2]) (T' := [(1, .sl (List.map I aTy1)), (3, .ra 1 0), (5, .ra 2 0)]) (O' := [(1, .box [.int .i64 aS0.fSize, .sl (List.map I aS0.fPlus), .sl (List.map I aS0.fTimes), .sl (List.map AV.bool aS0.fBelow)]), (2, .box [.int .i64 aV2.fOp, .int .i64 aV2.fN, .sl (List.map I aV2.fType), .sl (List.map GTerm_S aV2.fKids)])]) (by kernel_rfl) trivial (by kernel_rfl) (by kernel_rfl) ?_
  refine seqQ_norm ?_
  refine Wp.seqN (by kernel_rfl) ?_
  refine Wp.seqN (by kernel_rfl) ?_
  refine Wp.reg tiok mix hc (by kernel_rfl) (ah := none) (rs := [some (.no), some (.eqv (.no) ⟨[(14, .int .i64 (aTy1.length : Int))], [], []⟩), some (.no)]) (kt := [1, 3, 5, 15]) (ko := [1, 2]) (T' := [(1, .sl (List.map I aTy1)), (3, .ra 1 0), (5, .ra 2 0), (15, .bool (decide ((aTy1.length : Int) > 1048576)))]) (O' := [(1, .box [.int .i64 aS0.fSize, .sl (List.map I aS0.fPlus), .sl (List.map I aS0.fTimes), .sl (List.map AV.bool aS0.fBelow)]), (2, .box [.int .i64 aV2.fOp, .int .i64 aV2.fN, .sl (List.map I aV2.fType), .sl (List.map GTerm_S aV2.fKids)])]) (by kernel_rfl) (And.intro (lenT (d := 14) I aTy1) trivial) (by kernel_rfl) (by kernel_rfl) ?_
  refine seqQ_norm ?_
  rcases itesome h with ⟨hb_1, h⟩ | ⟨hb_1, h⟩
  · refine Wp.condT (b := (decide ((aTy1.length : Int) > 1048576))) (by kernel_rfl) (by kernel_rfl) hb_1 ?_
    refine Wp.seqN (by kernel_rfl) ?_
    refine Wp.reg tiok mix hc (by kernel_rfl) (ah := none) (rs := [some (.no)]) (kt := [6]) (ko := []) (T' := [(6, .bool true)]) (O' := []) (by kernel_rfl) trivial (by kernel_rfl) (by kernel_rfl) ?_
    refine seqQ_norm ?_
    refine Wp.retN (by kernel_rfl) ?_
    refine seqQ_ret ?_
    obtain rfl := Option.some.inj h
    exact RetQ.ret (fl := [true]) (by kernel_rfl)
  · refine Wp.condF (b := (decide ((aTy1.length : Int) > 1048576))) (by kernel_rfl) (by kernel_rfl) hb_1 ?_
    refine Wp.skipN (by kernel_rfl) ?_
    refine seqQ_norm ?_
    refine Wp.seqN (by kernel_rfl) ?_
    refine Wp.reg tiok mix hc (by kernel_rfl) (ah := none) (rs := [some (.no)]) (kt := [1, 3, 5, 7]) (ko := [1, 2]) (T' := [(1, .sl (List.map I aTy1)), (3, .ra 1 0), (5, .ra 2 0), (7, .int .i64 1048576)]) (O' := [(1, .box [.int .i64 aS0.fSize, .sl (List.map I aS0.fPlus), .sl (List.map I aS0.fTimes), .sl (List.map AV.bool aS0.fBelow)]), (2, .box [.int .i64 aV2.fOp, .int .i64 aV2.fN, .sl (List.map I aV2.fType), .sl (List.map GTerm_S aV2.fKids)])]) (by kernel_rfl) trivial (by kernel_rfl) (by kernel_rfl) ?_
    refine seqQ_norm ?_
    refine Wp.seqN (by kernel_rfl) ?_
    obtain ⟨r_4_2, hr_4_2, h⟩ := bsome h
    refine Wp.reg tiok mix hc (by kernel_rfl) (ah := none) (rs := [some (.no), some (.no), some (.call (.int .i64 r_4_2) [] 1), some (.no)]) (kt := [1, 3, 5, 7]) (ko := [1, 2]) (T' := [(1, .sl (List.map I aTy1)), (3, .ra 1 0), (5, .ra 2 0), (7, .int .i64 r_4_2)]) (O' := [(1, .box [.int .i64 aS0.fSize, .sl (List.map I aS0.fPlus), .sl (List.map I aS0.fTimes), .sl (List.map AV.bool aS0.fBelow)]), (2, .box [.int .i64 aV2.fOp, .int .i64 aV2.fN, .sl (List.map I aV2.fType), .sl (List.map GTerm_S aV2.fKids)])]) (by kernel_rfl) (And.intro (laws_szSystem_s _ _ hr_4_2) (And.intro bod_11 (And.intro (Or.inl rfl : ([] : List Nat) = [] ∨ noSh (.int .i64 r_4_2) = true) trivial))) (by kernel_rfl) (by kernel_rfl) ?_
    refine seqQ_norm ?_
    refine Wp.seqN (by kernel_rfl) ?_
    refine Wp.seqN (by kernel_rfl) ?_
    refine Wp.reg tiok mix hc (by kernel_rfl) (ah := none) (rs := [some (.no), some (.no)]) (kt := [1, 3, 5, 7, 20]) (ko := [1, 2]) (T' := [(1, .sl (List.map I aTy1)), (3, .ra 1 0), (5, .ra 2 0), (7, .int .i64 r_4_2), (20, .bool (decide (r_4_2 < 0)))]) (O' := [(1, .box [.int .i64 aS0.fSize, .sl (List.map I aS0.fPlus), .sl (List.map I aS0.fTimes), .sl (List.map AV.bool aS0.fBelow)]), (2, .box [.int .i64 aV2.fOp, .int .i64 aV2.fN, .sl (List.map I aV2.fType), .sl (List.map GTerm_S aV2.fKids)])]) (by kernel_rfl) trivial (by kernel_rfl) (by kernel_rfl) ?_
    refine seqQ_norm ?_
    rcases itesome h with ⟨hb_2, h⟩ | ⟨hb_2, h⟩
    · refine Wp.condT (b := (decide (r_4_2 < 0))) (by kernel_rfl) (by kernel_rfl) hb_2 ?_
      refine Wp.seqN (by kernel_rfl) ?_
      refine Wp.reg tiok mix hc (by kernel_rfl) (ah := none) (rs := [some (.no)]) (kt := [6]) (ko := []) (T' := [(6, .bool true)]) (O' := []) (by kernel_rfl) trivial (by kernel_rfl) (by kernel_rfl) ?_
      refine seqQ_norm ?_
      refine Wp.retN (by kernel_rfl) ?_
      refine seqQ_ret ?_
      obtain rfl := Option.some.inj h
      exact RetQ.ret (fl := [true]) (by kernel_rfl)
    · refine Wp.condF (b := (decide (r_4_2 < 0))) (by kernel_rfl) (by kernel_rfl) hb_2 ?_
      refine Wp.skipN (by kernel_rfl) ?_
      refine seqQ_norm ?_
      refine Wp.seqN (by kernel_rfl) ?_
      obtain ⟨r_7_2, hr_7_2, h⟩ := bsome h
      refine Wp.reg tiok mix hc (by kernel_rfl) (ah := none) (rs := [some (.no), some (.no), some (.call (.int .i64 r_7_2) [] 1), some (.no)]) (kt := [1, 3, 5, 7]) (ko := [1, 2]) (T' := [(1, .sl (List.map I aTy1)), (3, .ra 1 0), (5, .ra 2 0), (7, .int .i64 r_7_2)]) (O' := [(1, .box [.int .i64 aS0.fSize, .sl (List.map I aS0.fPlus), .sl (List.map I aS0.fTimes), .sl (List.map AV.bool aS0.fBelow)]), (2, .box [.int .i64 aV2.fOp, .int .i64 aV2.fN, .sl (List.map I aV2.fType), .sl (List.map GTerm_S aV2.fKids)])]) (by kernel_rfl) (And.intro (laws_szTerm_s _ _ hr_7_2) (And.intro bod_23 (And.intro (Or.inl rfl : ([] : List Nat) = [] ∨ noSh (.int .i64 r_7_2) = true) trivial))) (by kernel_rfl) (by kernel_rfl) ?_
      refine seqQ_norm ?_
      refine Wp.seqN (by kernel_rfl) ?_
      refine Wp.seqN (by kernel_rfl) ?_
      refine Wp.reg tiok mix hc (by kernel_rfl) (ah := none) (rs := [some (.no), some (.no)]) (kt := [1, 3, 5, 25]) (ko := [1, 2]) (T' := [(1, .sl (List.map I aTy1)), (3, .ra 1 0), (5, .ra 2 0), (25, .bool (decide (r_7_2 < 0)))]) (O' := [(1, .box [.int .i64 aS0.fSize, .sl (List.map I aS0.fPlus), .sl (List.map I aS0.fTimes), .sl (List.map AV.bool aS0.fBelow)]), (2, .box [.int .i64 aV2.fOp, .int .i64 aV2.fN, .sl (List.map I aV2.fType), .sl (List.map GTerm_S aV2.fKids)])]) (by kernel_rfl) trivial (by kernel_rfl) (by kernel_rfl) ?_
      refine seqQ_norm ?_
      rcases itesome h with ⟨hb_3, h⟩ | ⟨hb_3, h⟩
      · refine Wp.condT (b := (decide (r_7_2 < 0))) (by kernel_rfl) (by kernel_rfl) hb_3 ?_
        refine Wp.seqN (by kernel_rfl) ?_
        refine Wp.reg tiok mix hc (by kernel_rfl) (ah := none) (rs := [some (.no)]) (kt := [6]) (ko := []) (T' := [(6, .bool true)]) (O' := []) (by kernel_rfl) trivial (by kernel_rfl) (by kernel_rfl) ?_
        refine seqQ_norm ?_
        refine Wp.retN (by kernel_rfl) ?_
        refine seqQ_ret ?_
        obtain rfl := Option.some.inj h
        exact RetQ.ret (fl := [true]) (by kernel_rfl)
      · refine Wp.condF (b := (decide (r_7_2 < 0))) (by kernel_rfl) (by kernel_rfl) hb_3 ?_
        refine Wp.skipN (by kernel_rfl) ?_
        refine seqQ_norm ?_
        refine Wp.seqN (by kernel_rfl) ?_
        obtain ⟨r_10_1, hr_10_1, h⟩ := bsome h
        obtain ⟨r_10_3, hr_10_3, h⟩ := bsome h
        obtain ⟨r_10_5, hr_10_5, h⟩ := bsome h
        obtain ⟨r_10_6, hr_10_6, h⟩ := bsome h
        refine Wp.reg tiok mix hc (by kernel_rfl) (ah := (some [[], [0], [], [0, 1, 2], [], [0, 1, 2, 3, 4], [0, 1, 2, 3, 4, 5], [0, 1, 2, 3, 4, 5, 6]])) (rs := [some (.no), some (.call (.agg [.int .i64 r_10_1.fSize, .osl (List.map I r_10_1.fPlus), .osl (List.map I r_10_1.fTimes), .osl (List.map AV.bool r_10_1.fBelow)]) [] 3), some (.no), some (.call (.osl (List.map I r_10_3)) [] 6), some (.no), some (.call (.agg [.int .i64 r_10_5.fOp, .int .i64 r_10_5.fN, .osl (List.map I r_10_5.fType), .osl (List.map GTerm_O r_10_5.fKids)]) [] 7), some (.call (.bool r_10_6) [] 1), some (.no)]) (kt := [1, 3, 5, 8]) (ko := [1, 2]) (T' := [(1, .sl (List.map I aTy1)), (3, .ra 1 0), (5, .ra 2 0), (8, .bool r_10_6)]) (O' := [(1, .box [.int .i64 aS0.fSize, .sl (List.map I aS0.fPlus), .sl (List.map I aS0.fTimes), .sl (List.map AV.bool aS0.fBelow)]), (2, .box [.int .i64 aV2.fOp, .int .i64 aV2.fN, .sl (List.map I aV2.fType), .sl (List.map GTerm_S aV2.fKids)])]) (by kernel_rfl) (And.intro (laws_toSystem_s _ _ hr_10_1) (And.intro bod_13 (And.intro (Or.inl rfl : ([] : List Nat) = [] ∨ noSh (.agg [.int .i64 r_10_1.fSize, .osl (List.map I r_10_1.fPlus), .osl (List.map I r_10_1.fTimes), .osl (List.map AV.bool r_10_1.fBelow)]) = true) (And.intro (laws_toIntS_s _ _ hr_10_3) (And.intro bod_14 (And.intro (Or.inl rfl : ([] : List Nat) = [] ∨ noSh (.osl (List.map I r_10_3)) = true) (And.intro (laws_toTerm_s _ _ hr_10_5) (And.intro bod_25 (And.intro (Or.inl rfl : ([] : List Nat) = [] ∨ noSh (.agg [.int .i64 r_10_5.fOp, .int .i64 r_10_5.fN, .osl (List.map I r_10_5.fType), .osl (List.map GTerm_O r_10_5.fKids)]) = true) (And.intro (FnSound.args (A1 := [.agg [.int .i64 r_10_1.fSize, .sl (shares (List.map I r_10_1.fPlus)), .sl (shares (List.map I r_10_1.fTimes)), .sl (shares (List.map AV.bool r_10_1.fBelow))], .sl (shares (List.map I r_10_3)), .agg [.int .i64 r_10_5.fOp, .int .i64 r_10_5.fN, .sl (shares (List.map I r_10_5.fType)), .sl (shares (List.map GTerm_O r_10_5.fKids))]]) (A2 := [.agg [.int .i64 r_10_1.fSize, .sl (List.map I r_10_1.fPlus), .sl (List.map I r_10_1.fTimes), .sl (List.map AV.bool r_10_1.fBelow)], .sl (List.map I r_10_3), .agg [.int .i64 r_10_5.fOp, .int .i64 r_10_5.fN, .sl (List.map I r_10_5.fType), .sl (List.map GTerm_S r_10_5.fKids)]]) (by simp only [List.map_nil, sh_B, sh_GTerm_O, sh_I]) (spec_IsValue_s _ _ hr_10_6)) (And.intro bod_29 (And.intro (Or.inr rfl : ([3, 4, 5, 6, 7, 8] : List Nat) = [] ∨ noSh (.bool r_10_6) = true) trivial)))))))))))) (by kernel_rfl) (by kernel_rfl) ?_
        refine seqQ_norm ?_
        refine Wp.seqN (by kernel_rfl) ?_
        obtain ⟨r_11_1, hr_11_1, h⟩ := bsome h
        refine Wp.reg tiok mix hc (by kernel_rfl) (ah := none) (rs := [some (.no), some (.call (.agg [.int .i64 r_11_1.fSize, .osl (List.map I r_11_1.fPlus), .osl (List.map I r_11_1.fTimes), .osl (List.map AV.bool r_11_1.fBelow)]) [] 9), some (.new 12), some (.no)]) (kt := [1, 3, 5, 8, 9]) (ko := [1, 2, 9, 10, 11, 12]) (T' := [(1, .sl (List.map I aTy1)), (3, .ra 1 0), (5, .ra 2 0), (8, .bool r_10_6), (9, .ra 12 0)]) (O' := [(1, .box [.int .i64 aS0.fSize, .sl (List.map I aS0.fPlus), .sl (List.map I aS0.fTimes), .sl (List.map AV.bool aS0.fBelow)]), (2, .box [.int .i64 aV2.fOp, .int .i64 aV2.fN, .sl (List.map I aV2.fType), .sl (List.map GTerm_S aV2.fKids)]), (9, .arr (List.map I r_11_1.fPlus)), (10, .arr (List.map I r_11_1.fTimes)), (11, .arr (List.map AV.bool r_11_1.fBelow)), (12, .box [.int .i64 r_11_1.fSize, .rs 9, .rs 10, .rs 11])]) (by kernel_rfl) (And.intro (laws_toSystem_s _ _ hr_11_1) (And.intro bod_13 (And.intro (Or.inl rfl : ([] : List Nat) = [] ∨ noSh (.agg [.int .i64 r_11_1.fSize, .osl (List.map I r_11_1.fPlus), .osl (List.map I r_11_1.fTimes), .osl (List.map AV.bool r_11_1.fBelow)]) = true) trivial))) (by kernel_rfl) (by kernel_rfl) ?_
        refine seqQ_norm ?_
        refine Wp.seqN (by kernel_rfl) ?_
        obtain ⟨r_12_1, hr_12_1, h⟩ := bsome h
        refine Wp.reg tiok mix hc (by kernel_rfl) (ah := none) (rs := [some (.no), some (.call (.osl (List.map I r_12_1)) [] 13), some (.no)]) (kt := [1, 3, 5, 8, 9, 10]) (ko := [1, 2, 9, 10, 11, 12, 13]) (T' := [(1, .sl (List.map I aTy1)), (3, .ra 1 0), (5, .ra 2 0), (8, .bool r_10_6), (9, .ra 12 0), (10, .rs 13)]) (O' := [(1, .box [.int .i64 aS0.fSize, .sl (List.map I aS0.fPlus), .sl (List.map I aS0.fTimes), .sl (List.map AV.bool aS0.fBelow)]), (2, .box [.int .i64 aV2.fOp, .int .i64 aV2.fN, .sl (List.map I aV2.fType), .sl (List.map GTerm_S aV2.fKids)]), (9, .arr (List.map I r_11_1.fPlus)), (10, .arr (List.map I r_11_1.fTimes)), (11, .arr (List.map AV.bool r_11_1.fBelow)), (12, .box [.int .i64 r_11_1.fSize, .rs 9, .rs 10, .rs 11]), (13, .arr (List.map I r_12_1))]) (by kernel_rfl) (And.intro (laws_toIntS_s _ _ hr_12_1) (And.intro bod_14 (And.intro (Or.inl rfl : ([] : List Nat) = [] ∨ noSh (.osl (List.map I r_12_1)) = true) trivial))) (by kernel_rfl) (by kernel_rfl) ?_
        refine seqQ_norm ?_
        refine Wp.seqN (by kernel_rfl) ?_
        obtain ⟨r_13_1, hr_13_1, h⟩ := bsome h
        refine Wp.reg tiok mix hc (by kernel_rfl) (ah := none) (rs := [some (.no), some (.call (.agg [.int .i64 r_13_1.fOp, .int .i64 r_13_1.fN, .osl (List.map I r_13_1.fType), .osl (List.map GTerm_O r_13_1.fKids)]) [] 14), some (.new 16), some (.no)]) (kt := [1, 3, 5, 8, 9, 10, 11]) (ko := [1, 2, 9, 10, 11, 12, 13, 14, 15, 16]) (T' := [(1, .sl (List.map I aTy1)), (3, .ra 1 0), (5, .ra 2 0), (8, .bool r_10_6), (9, .ra 12 0), (10, .rs 13), (11, .ra 16 0)]) (O' := [(1, .box [.int .i64 aS0.fSize, .sl (List.map I aS0.fPlus), .sl (List.map I aS0.fTimes), .sl (List.map AV.bool aS0.fBelow)]), (2, .box [.int .i64 aV2.fOp, .int .i64 aV2.fN, .sl (List.map I aV2.fType), .sl (List.map GTerm_S aV2.fKids)]), (9, .arr (List.map I r_11_1.fPlus)), (10, .arr (List.map I r_11_1.fTimes)), (11, .arr (List.map AV.bool r_11_1.fBelow)), (12, .box [.int .i64 r_11_1.fSize, .rs 9, .rs 10, .rs 11]), (13, .arr (List.map I r_12_1)), (14, .arr (List.map I r_13_1.fType)), (15, .arr (List.map GTerm_O r_13_1.fKids)), (16, .box [.int .i64 r_13_1.fOp, .int .i64 r_13_1.fN, .rs 14, .rs 15])]) (by kernel_rfl) (And.intro (laws_toTerm_s _ _ hr_13_1) (And.intro bod_25 (And.intro (Or.inl rfl : ([] : List Nat) = [] ∨ noSh (.agg [.int .i64 r_13_1.fOp, .int .i64 r_13_1.fN, .osl (List.map I r_13_1.fType), .osl (List.map GTerm_O r_13_1.fKids)]) = true) trivial))) (by kernel_rfl) (by kernel_rfl) ?_
        refine seqQ_norm ?_
        refine Wp.seqN (by kernel_rfl) ?_
        obtain ⟨r_14_3, hr_14_3, h⟩ := bsome h
        refine Wp.reg tiok mix hc (by kernel_rfl) (ah := none) (rs := [some (.no), some (.no), some (.no), some (.call (.bool r_14_3) [] 1), some (.no)]) (kt := [1, 3, 5, 8, 9, 10, 11, 12]) (ko := [1, 2, 9, 10, 11, 12, 13, 14, 15, 16]) (T' := [(1, .sl (List.map I aTy1)), (3, .ra 1 0), (5, .ra 2 0), (8, .bool r_10_6), (9, .ra 12 0), (10, .rs 13), (11, .ra 16 0), (12, .bool r_14_3)]) (O' := [(1, .box [.int .i64 aS0.fSize, .sl (List.map I aS0.fPlus), .sl (List.map I aS0.fTimes), .sl (List.map AV.bool aS0.fBelow)]), (2, .box [.int .i64 aV2.fOp, .int .i64 aV2.fN, .sl (List.map I aV2.fType), .sl (List.map GTerm_S aV2.fKids)]), (9, .arr (List.map I r_11_1.fPlus)), (10, .arr (List.map I r_11_1.fTimes)), (11, .arr (List.map AV.bool r_11_1.fBelow)), (12, .box [.int .i64 r_11_1.fSize, .rs 9, .rs 10, .rs 11]), (13, .arr (List.map I r_12_1)), (14, .arr (List.map I r_13_1.fType)), (15, .arr (List.map GTerm_O r_13_1.fKids)), (16, .box [.int .i64 r_13_1.fOp, .int .i64 r_13_1.fN, .rs 14, .rs 15])]) (by kernel_rfl) (And.intro (FnSound.args (A1 := [.agg [.int .i64 r_11_1.fSize, .sl (shares (List.map I r_11_1.fPlus)), .sl (shares (List.map I r_11_1.fTimes)), .sl (shares (List.map AV.bool r_11_1.fBelow))], .sl (shares (List.map I r_12_1)), .agg [.int .i64 r_13_1.fOp, .int .i64 r_13_1.fN, .sl (shares (List.map I r_13_1.fType)), .sl (shares (List.map GTerm_O r_13_1.fKids))]]) (A2 := [.agg [.int .i64 r_11_1.fSize, .sl (List.map I r_11_1.fPlus), .sl (List.map I r_11_1.fTimes), .sl (List.map AV.bool r_11_1.fBelow)], .sl (List.map I r_12_1), .agg [.int .i64 r_13_1.fOp, .int .i64 r_13_1.fN, .sl (List.map I r_13_1.fType), .sl (List.map GTerm_S r_13_1.fKids)]]) (by simp only [List.map_nil, sh_B, sh_GTerm_O, sh_I]) (impl_IsValue_s _ _ hr_14_3)) (And.intro bod_30 (And.intro (Or.inr rfl : ([9, 10, 11, 13, 14, 15] : List Nat) = [] ∨ noSh (.bool r_14_3) = true) trivial))) (by kernel_rfl) (by kernel_rfl) ?_
        refine seqQ_norm ?_
        refine Wp.seqN (by kernel_rfl) ?_
        refine Wp.seqN (by kernel_rfl) ?_
        refine Wp.reg tiok mix hc (by kernel_rfl) (ah := none) (rs := [some (.no), some (.no), some (.no)]) (kt := [1, 3, 5, 9, 10, 11, 45]) (ko := [1, 2, 9, 10, 11, 12, 13, 14, 15, 16]) (T' := [(1, .sl (List.map I aTy1)), (3, .ra 1 0), (5, .ra 2 0), (9, .ra 12 0), (10, .rs 13), (11, .ra 16 0), (45, .bool (!(r_14_3 == r_10_6)))]) (O' := [(1, .box [.int .i64 aS0.fSize, .sl (List.map I aS0.fPlus), .sl (List.map I aS0.fTimes), .sl (List.map AV.bool aS0.fBelow)]), (2, .box [.int .i64 aV2.fOp, .int .i64 aV2.fN, .sl (List.map I aV2.fType), .sl (List.map GTerm_S aV2.fKids)]), (9, .arr (List.map I r_11_1.fPlus)), (10, .arr (List.map I r_11_1.fTimes)), (11, .arr (List.map AV.bool r_11_1.fBelow)), (12, .box [.int .i64 r_11_1.fSize, .rs 9, .rs 10, .rs 11]), (13, .arr (List.map I r_12_1)), (14, .arr (List.map I r_13_1.fType)), (15, .arr (List.map GTerm_O r_13_1.fKids)), (16, .box [.int .i64 r_13_1.fOp, .int .i64 r_13_1.fN, .rs 14, .rs 15])]) (by kernel_rfl) trivial (by kernel_rfl) (by kernel_rfl) ?_
        refine seqQ_norm ?_
        rcases itesome h with ⟨hb_4, h⟩ | ⟨hb_4, h⟩
        · refine Wp.condF (b := (!(r_14_3 == r_10_6))) (by kernel_rfl) (by kernel_rfl) (nF hb_4) ?_
          refine Wp.skipN (by kernel_rfl) ?_
          refine seqQ_norm ?_
          refine Wp.seqN (by kernel_rfl) ?_
          refine Wp.seqN (by kernel_rfl) ?_
          obtain ⟨r_17_2, hr_17_2, h⟩ := bsome h
          obtain ⟨r_17_3, hr_17_3, h⟩ := bsome h
          refine Wp.reg tiok mix hc (by kernel_rfl) (ah := (some [[], [], [1], [0, 1, 2], [0, 1, 2, 3]])) (rs := [some (.no), some (.no), some (.call (.agg [.int .i64 r_17_2.fSize, .osl (List.map I r_17_2.fPlus), .osl (List.map I r_17_2.fTimes), .osl (List.map AV.bool r_17_2.fBelow)]) [] 17), some (.call (.bool r_17_3) [] 1), some (.no)]) (kt := [1, 5, 10, 11, 50]) (ko := [2, 13, 14, 15, 16]) (T' := [(1, .sl (List.map I aTy1)), (5, .ra 2 0), (10, .rs 13), (11, .ra 16 0), (50, .bool (!r_17_3))]) (O' := [(2, .box [.int .i64 aV2.fOp, .int .i64 aV2.fN, .sl (List.map I aV2.fType), .sl (List.map GTerm_S aV2.fKids)]), (13, .arr (List.map I r_12_1)), (14, .arr (List.map I r_13_1.fType)), (15, .arr (List.map GTerm_O r_13_1.fKids)), (16, .box [.int .i64 r_13_1.fOp, .int .i64 r_13_1.fN, .rs 14, .rs 15])]) (by kernel_rfl) (And.intro (laws_toSystem_s _ _ hr_17_2) (And.intro bod_13 (And.intro (Or.inl rfl : ([] : List Nat) = [] ∨ noSh (.agg [.int .i64 r_17_2.fSize, .osl (List.map I r_17_2.fPlus), .osl (List.map I r_17_2.fTimes), .osl (List.map AV.bool r_17_2.fBelow)]) = true) (And.intro (FnSound.args (A1 := [.agg [.int .i64 r_11_1.fSize, .sl (shares (List.map I r_11_1.fPlus)), .sl (shares (List.map I r_11_1.fTimes)), .sl (shares (List.map AV.bool r_11_1.fBelow))], .agg [.int .i64 r_17_2.fSize, .sl (shares (List.map I r_17_2.fPlus)), .sl (shares (List.map I r_17_2.fTimes)), .sl (shares (List.map AV.bool r_17_2.fBelow))]]) (A2 := [.agg [.int .i64 r_11_1.fSize, .sl (List.map I r_11_1.fPlus), .sl (List.map I r_11_1.fTimes), .sl (List.map AV.bool r_11_1.fBelow)], .agg [.int .i64 r_17_2.fSize, .sl (List.map I r_17_2.fPlus), .sl (List.map I r_17_2.fTimes), .sl (List.map AV.bool r_17_2.fBelow)]]) (by simp only [List.map_nil, sh_B, sh_I]) (laws_eqSystem_s _ _ hr_17_3)) (And.intro bod_17 (And.intro (Or.inr rfl : ([9, 10, 11, 17, 18, 19] : List Nat) = [] ∨ noSh (.bool r_17_3) = true) trivial)))))) (by kernel_rfl) (by kernel_rfl) ?_
          refine seqQ_norm ?_
          rcases itesome h with ⟨hb_5, h⟩ | ⟨hb_5, h⟩
          · refine Wp.condF (b := (!r_17_3)) (by kernel_rfl) (by kernel_rfl) (nF hb_5) ?_
            refine Wp.skipN (by kernel_rfl) ?_
            refine seqQ_norm ?_
            refine Wp.seqN (by kernel_rfl) ?_
            refine Wp.seqN (by kernel_rfl) ?_
            obtain ⟨r_19_2, hr_19_2, h⟩ := bsome h
            obtain ⟨r_19_3, hr_19_3, h⟩ := bsome h
            refine Wp.reg tiok mix hc (by kernel_rfl) (ah := none) (rs := [some (.no), some (.no), some (.call (.osl (List.map I r_19_2)) [] 20), some (.call (.bool r_19_3) [] 1), some (.no)]) (kt := [5, 11, 55]) (ko := [2, 14, 15, 16]) (T' := [(5, .ra 2 0), (11, .ra 16 0), (55, .bool (!r_19_3))]) (O' := [(2, .box [.int .i64 aV2.fOp, .int .i64 aV2.fN, .sl (List.map I aV2.fType), .sl (List.map GTerm_S aV2.fKids)]), (14, .arr (List.map I r_13_1.fType)), (15, .arr (List.map GTerm_O r_13_1.fKids)), (16, .box [.int .i64 r_13_1.fOp, .int .i64 r_13_1.fN, .rs 14, .rs 15])]) (by kernel_rfl) (And.intro (laws_toIntS_s _ _ hr_19_2) (And.intro bod_14 (And.intro (Or.inl rfl : ([] : List Nat) = [] ∨ noSh (.osl (List.map I r_19_2)) = true) (And.intro (FnSound.args (A1 := [.sl (shares (List.map I r_12_1)), .sl (shares (List.map I r_19_2))]) (A2 := [.sl (List.map I r_12_1), .sl (List.map I r_19_2)]) (by simp only [List.map_nil, sh_I]) (laws_eqIntS_s _ _ hr_19_3)) (And.intro bod_18 (And.intro (Or.inr rfl : ([13, 20] : List Nat) = [] ∨ noSh (.bool r_19_3) = true) trivial)))))) (by kernel_rfl) (by kernel_rfl) ?_
            refine seqQ_norm ?_
            rcases itesome h with ⟨hb_6, h⟩ | ⟨hb_6, h⟩
            · refine Wp.condF (b := (!r_19_3)) (by kernel_rfl) (by kernel_rfl) (nF hb_6) ?_
              refine Wp.skipN (by kernel_rfl) ?_
              refine seqQ_norm ?_
              refine Wp.seqN (by kernel_rfl) ?_
              refine Wp.seqN (by kernel_rfl) ?_
              obtain ⟨r_21_2, hr_21_2, h⟩ := bsome h
              obtain ⟨r_21_3, hr_21_3, h⟩ := bsome h
              refine Wp.reg tiok mix hc (by kernel_rfl) (ah := (some [[], [], [1], [0, 1, 2], [0, 1, 2, 3]])) (rs := [some (.no), some (.no), some (.call (.agg [.int .i64 r_21_2.fOp, .int .i64 r_21_2.fN, .osl (List.map I r_21_2.fType), .osl (List.map GTerm_O r_21_2.fKids)]) [] 21), some (.call (.bool r_21_3) [] 1), some (.no)]) (kt := [60]) (ko := []) (T' := [(60, .bool (!r_21_3))]) (O' := []) (by kernel_rfl) (And.intro (laws_toTerm_s _ _ hr_21_2) (And.intro bod_25 (And.intro (Or.inl rfl : ([] : List Nat) = [] ∨ noSh (.agg [.int .i64 r_21_2.fOp, .int .i64 r_21_2.fN, .osl (List.map I r_21_2.fType), .osl (List.map GTerm_O r_21_2.fKids)]) = true) (And.intro (FnSound.args (A1 := [.agg [.int .i64 r_13_1.fOp, .int .i64 r_13_1.fN, .sl (shares (List.map I r_13_1.fType)), .sl (shares (List.map GTerm_O r_13_1.fKids))], .agg [.int .i64 r_21_2.fOp, .int .i64 r_21_2.fN, .sl (shares (List.map I r_21_2.fType)), .sl (shares (List.map GTerm_O r_21_2.fKids))]]) (A2 := [.agg [.int .i64 r_13_1.fOp, .int .i64 r_13_1.fN, .sl (List.map I r_13_1.fType), .sl (List.map GTerm_S r_13_1.fKids)], .agg [.int .i64 r_21_2.fOp, .int .i64 r_21_2.fN, .sl (List.map I r_21_2.fType), .sl (List.map GTerm_S r_21_2.fKids)]]) (by simp only [List.map_nil, sh_GTerm_O, sh_I]) (laws_eqTerm_s _ _ hr_21_3)) (And.intro bod_16 (And.intro (Or.inr rfl : ([14, 15, 21, 22] : List Nat) = [] ∨ noSh (.bool r_21_3) = true) trivial)))))) (by kernel_rfl) (by kernel_rfl) ?_
              refine seqQ_norm ?_
              rcases itesome h with ⟨hb_7, h⟩ | ⟨hb_7, h⟩
              · refine Wp.condF (b := (!r_21_3)) (by kernel_rfl) (by kernel_rfl) (nF hb_7) ?_
                refine Wp.skipN (by kernel_rfl) ?_
                refine seqQ_norm ?_
                refine Wp.seqN (by kernel_rfl) ?_
                refine Wp.reg tiok mix hc (by kernel_rfl) (ah := none) (rs := [some (.no)]) (kt := [6]) (ko := []) (T' := [(6, .bool true)]) (O' := []) (by kernel_rfl) trivial (by kernel_rfl) (by kernel_rfl) ?_
                refine seqQ_norm ?_
                refine Wp.retN (by kernel_rfl) ?_
                obtain rfl := Option.some.inj h
                exact RetQ.ret (fl := [true]) (by kernel_rfl)
              · refine Wp.condT (b := (!r_21_3)) (by kernel_rfl) (by kernel_rfl) (nT hb_7) ?_
                refine Wp.seqN (by kernel_rfl) ?_
                refine Wp.reg tiok mix hc (by kernel_rfl) (ah := none) (rs := [some (.no)]) (kt := [6]) (ko := []) (T' := [(6, .bool false)]) (O' := []) (by kernel_rfl) trivial (by kernel_rfl) (by kernel_rfl) ?_
                refine seqQ_norm ?_
                refine Wp.retN (by kernel_rfl) ?_
                refine seqQ_ret ?_
                obtain rfl := Option.some.inj h
                exact RetQ.ret (fl := [true]) (by kernel_rfl)
            · refine Wp.condT (b := (!r_19_3)) (by kernel_rfl) (by kernel_rfl) (nT hb_6) ?_
              refine Wp.seqN (by kernel_rfl) ?_
              refine Wp.reg tiok mix hc (by kernel_rfl) (ah := none) (rs := [some (.no)]) (kt := [6]) (ko := []) (T' := [(6, .bool false)]) (O' := []) (by kernel_rfl) trivial (by kernel_rfl) (by kernel_rfl) ?_
              refine seqQ_norm ?_
              refine Wp.retN (by kernel_rfl) ?_
              refine seqQ_ret ?_
              obtain rfl := Option.some.inj h
              exact RetQ.ret (fl := [true]) (by kernel_rfl)
          · refine Wp.condT (b := (!r_17_3)) (by kernel_rfl) (by kernel_rfl) (nT hb_5) ?_
            refine Wp.seqN (by kernel_rfl) ?_
            refine Wp.reg tiok mix hc (by kernel_rfl) (ah := none) (rs := [some (.no)]) (kt := [6]) (ko := []) (T' := [(6, .bool false)]) (O' := []) (by kernel_rfl) trivial (by kernel_rfl) (by kernel_rfl) ?_
            refine seqQ_norm ?_
            refine Wp.retN (by kernel_rfl) ?_
            refine seqQ_ret ?_
            obtain rfl := Option.some.inj h
            exact RetQ.ret (fl := [true]) (by kernel_rfl)
        · refine Wp.condT (b := (!(r_14_3 == r_10_6))) (by kernel_rfl) (by kernel_rfl) (nT hb_4) ?_
          refine Wp.seqN (by kernel_rfl) ?_
          refine Wp.reg tiok mix hc (by kernel_rfl) (ah := none) (rs := [some (.no)]) (kt := [6]) (ko := []) (T' := [(6, .bool false)]) (O' := []) (by kernel_rfl) trivial (by kernel_rfl) (by kernel_rfl) ?_
          refine seqQ_norm ?_
          refine Wp.retN (by kernel_rfl) ?_
          refine seqQ_ret ?_
          obtain rfl := Option.some.inj h
          exact RetQ.ret (fl := [true]) (by kernel_rfl)
end Go.Am
