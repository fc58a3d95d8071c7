/- Functions of the program as pure functions, and that it computes them. Printed by a program of mine (gen.py). -/
import Derived.Test.YtfakfcaegabgaaaGFOTi
set_option linter.unusedVariables false
set_option linter.unusedSimpArgs false
set_option maxRecDepth 100000
namespace Go.Am
open Go Go.Proofs
def laws_szIntS (p : (List Int) × Int) : Option (Int) :=
  match p with
  | (a0, left1) =>
    if (decide ((wr (left1 - (a0.length : Int))) < 0)) = true then
      some (-1)
    else
      some (wr (left1 - (a0.length : Int)))
def M_laws_szIntS (p : (List Int) × Int) (r : Int) : Prop :=
  match p with
  | (a0, left1) => FnSound Try.prog 42 [.sl (List.map I a0), .int .i64 left1] (.int .i64 r) []
theorem laws_szIntS_s : ∀ p r, laws_szIntS p = some r → M_laws_szIntS p r := by
  rintro ⟨a0, left1⟩ r h
  unfold laws_szIntS at h
  show FnSound Try.prog 42 [.sl (List.map I a0), .int .i64 left1] (.int .i64 r) []
  refine FnSound.body0 tiok (fn := Try.f42) (code := B42) (by kernel_rfl) (by kernel_rfl) (by kernel_rfl) (by kernel_rfl) (nt := 12) (by kernel_rfl) (by kernel_rfl) (T := [(0, .sl (List.map I a0)), (1, .int .i64 left1)]) (O := []) (by kernel_rfl) (by kernel_rfl) (fun c hc => ?_)
  refine Wp.seqN (by kernel_rfl) ?_
  refine Wp.reg tiok mix hc (by kernel_rfl) (ah := none) (rs := [some (.no)]) (kt := [0, 1]) (ko := []) (T' := [(0, .sl (List.map I a0)), (1, .int .i64 left1)]) (O' := []) (by kernel_rfl) trivial (by kernel_rfl) (by kernel_rfl) ?_
  refine seqQ_norm ?_
  refine Wp.seqN (by kernel_rfl) ?_
  refine Wp.reg tiok mix hc (by kernel_rfl) (ah := none) (rs := [some (.no), some (.no), some (.eqv (.no) ⟨[(7, .int .i64 (a0.length : Int))], [], []⟩), some (.no), some (.no)]) (kt := [1]) (ko := []) (T' := [(1, .int .i64 (wr (left1 - (a0.length : Int))))]) (O' := []) (by kernel_rfl) (And.intro (lenT (d := 7) I a0) trivial) (by kernel_rfl) (by kernel_rfl) ?_
  refine seqQ_norm ?_
  refine Wp.seqN (by kernel_rfl) ?_
  refine Wp.seqN (by kernel_rfl) ?_
  refine Wp.reg tiok mix hc (by kernel_rfl) (ah := none) (rs := [some (.no), some (.no)]) (kt := [1, 10]) (ko := []) (T' := [(1, .int .i64 (wr (left1 - (a0.length : Int)))), (10, .bool (decide ((wr (left1 - (a0.length : Int))) < 0)))]) (O' := []) (by kernel_rfl) trivial (by kernel_rfl) (by kernel_rfl) ?_
  refine seqQ_norm ?_
  rcases itesome h with ⟨hb_1, h⟩ | ⟨hb_1, h⟩
  · refine Wp.condT (b := (decide ((wr (left1 - (a0.length : Int))) < 0))) (by kernel_rfl) (by kernel_rfl) hb_1 ?_
    refine Wp.seqN (by kernel_rfl) ?_
    refine Wp.reg tiok mix hc (by kernel_rfl) (ah := none) (rs := [some (.no)]) (kt := [4]) (ko := []) (T' := [(4, .int .i64 (-1))]) (O' := []) (by kernel_rfl) trivial (by kernel_rfl) (by kernel_rfl) ?_
    refine seqQ_norm ?_
    refine Wp.retN (by kernel_rfl) ?_
    refine seqQ_ret ?_
    obtain rfl := Option.some.inj h
    exact RetQ.ret (fl := [true]) (by kernel_rfl)
  · refine Wp.condF (b := (decide ((wr (left1 - (a0.length : Int))) < 0))) (by kernel_rfl) (by kernel_rfl) hb_1 ?_
    refine Wp.skipN (by kernel_rfl) ?_
    refine seqQ_norm ?_
    refine Wp.seqN (by kernel_rfl) ?_
    refine Wp.reg tiok mix hc (by kernel_rfl) (ah := none) (rs := [some (.no), some (.no)]) (kt := [4]) (ko := []) (T' := [(4, .int .i64 (wr (left1 - (a0.length : Int))))]) (O' := []) (by kernel_rfl) trivial (by kernel_rfl) (by kernel_rfl) ?_
    refine seqQ_norm ?_
    refine Wp.retN (by kernel_rfl) ?_
    obtain rfl := Option.some.inj h
    exact RetQ.ret (fl := [true]) (by kernel_rfl)
def laws_szTermS_F1 (c : Ctx) : (Int) ⊕ (Int) → Exit → AState → Prop
  | .inl left_8 => Into c (.exit 0) (mkS [(1, .int .i64 left_8)] [])
  | .inr r => RetE TIx Try.f55 [] (.int .i64 r)
mutual
def laws_szTerm (p : GTerm × Int) : Option (Int) :=
  match p with
  | (a0, left1) =>
    (laws_szIntS (a0.fType, left1)) >>= fun r_1_3 =>
    if (decide (r_1_3 < 0)) = true then
      some (-1)
    else
      (laws_szTermS (a0.fKids, r_1_3)) >>= fun r_4_3 =>
      if (decide (r_4_3 < 0)) = true then
        some (-1)
      else
        some r_4_3
  partial_fixpoint
def laws_szTermS (p : (List GTerm) × Int) : Option (Int) :=
  match p with
  | (a0, left1) =>
    if (decide ((wr (left1 - (a0.length : Int))) < 0)) = true then
      some (-1)
    else
      (laws_szTermS_l0 (a0, (wr (left1 - (a0.length : Int))), 0)) >>= fun fl => match fl with
      | .inl left_8 =>
        some left_8
      | .inr r =>
        some r
  partial_fixpoint
def laws_szTermS_l0 (p : (List GTerm) × Int × Int) : Option ((Int) ⊕ (Int)) :=
  match p with
  | (a0, left_4, i_5) =>
    if (decide (i_5 < (a0.length : Int))) = true then
      (idx a0 i_5) >>= fun e_7_2 =>
      (laws_szTerm (e_7_2, left_4)) >>= fun r_7_5 =>
      if (decide (r_7_5 < 0)) = true then
        some (.inr (-1))
      else
        laws_szTermS_l0 (a0, r_7_5, (wr (i_5 + 1)))
    else
      some (.inl left_4)
  partial_fixpoint
end
def M_laws_szTerm (p : GTerm × Int) (r : Int) : Prop :=
  match p with
  | (a0, left1) => FnSound Try.prog 23 [.agg [.int .i64 a0.fOp, .int .i64 a0.fN, .sl (List.map I a0.fType), .sl (List.map GTerm_S a0.fKids)], .int .i64 left1] (.int .i64 r) []
def M_laws_szTermS (p : (List GTerm) × Int) (r : Int) : Prop :=
  match p with
  | (a0, left1) => FnSound Try.prog 55 [.sl (List.map GTerm_S a0), .int .i64 left1] (.int .i64 r) []
def M_laws_szTermS_l0 (p : (List GTerm) × Int × Int) (fl : (Int) ⊕ (Int)) : Prop :=
  match p with
  | (a0, left_4, i_5) => ∀ c : Ctx, c.nt = 27 → WpL Try.prog c (cl (cl (cr (cl (cr (cr (cr B55))))))) (laws_szTermS_F1 c fl) (mkS [(0, .sl (List.map GTerm_S a0)), (1, .int .i64 left_4), (5, .int .i64 i_5)] [])
theorem laws_szTerm_all : (∀ p r, laws_szTerm p = some r → M_laws_szTerm p r) ∧ (∀ p r, laws_szTermS p = some r → M_laws_szTermS p r) ∧ (∀ p r, laws_szTermS_l0 p = some r → M_laws_szTermS_l0 p r) := by
  refine laws_szTerm.mutual_partial_correctness M_laws_szTerm M_laws_szTermS M_laws_szTermS_l0 ?_ ?_ ?_
  · rintro laws_szTermS_f laws_szTermS_ih ⟨a0, left1⟩ r h
    show FnSound Try.prog 23 [.agg [.int .i64 a0.fOp, .int .i64 a0.fN, .sl (List.map I a0.fType), .sl (List.map GTerm_S a0.fKids)], .int .i64 left1] (.int .i64 r) []
    refine FnSound.body0 tiok (fn := Try.f23) (code := B23) (by kernel_rfl) (by kernel_rfl) (by kernel_rfl) (by kernel_rfl) (nt := 18) (by kernel_rfl) (by kernel_rfl) (T := [(0, .agg [.int .i64 a0.fOp, .int .i64 a0.fN, .sl (List.map I a0.fType), .sl (List.map GTerm_S a0.fKids)]), (1, .int .i64 left1)]) (O := []) (by kernel_rfl) (by kernel_rfl) (fun c hc => ?_)
    refine Wp.seqN (by kernel_rfl) ?_
    refine Wp.reg tiok mix hc (by kernel_rfl) (ah := none) (rs := [some (.new 1), some (.no)]) (kt := [1, 2]) (ko := [1]) (T' := [(1, .int .i64 left1), (2, .ra 1 0)]) (O' := [(1, .box [.int .i64 a0.fOp, .int .i64 a0.fN, .sl (List.map I a0.fType), .sl (List.map GTerm_S a0.fKids)])]) (by kernel_rfl) trivial (by kernel_rfl) (by kernel_rfl) ?_
    refine seqQ_norm ?_
    refine Wp.seqN (by kernel_rfl) ?_
    obtain ⟨r_1_3, hr_1_3, h⟩ := bsome h
    refine Wp.reg tiok mix hc (by kernel_rfl) (ah := none) (rs := [some (.no), some (.no), some (.no), some (.call (.int .i64 r_1_3) [] 1), some (.no)]) (kt := [1, 2]) (ko := [1]) (T' := [(1, .int .i64 r_1_3), (2, .ra 1 0)]) (O' := [(1, .box [.int .i64 a0.fOp, .int .i64 a0.fN, .sl (List.map I a0.fType), .sl (List.map GTerm_S a0.fKids)])]) (by kernel_rfl) (And.intro (laws_szIntS_s _ _ hr_1_3) (And.intro bod_42 (And.intro (Or.inl rfl : ([] : List Nat) = [] ∨ noSh (.int .i64 r_1_3) = true) trivial))) (by kernel_rfl) (by kernel_rfl) ?_
    refine seqQ_norm ?_
    refine Wp.seqN (by kernel_rfl) ?_
    refine Wp.seqN (by kernel_rfl) ?_
    refine Wp.reg tiok mix hc (by kernel_rfl) (ah := none) (rs := [some (.no), some (.no)]) (kt := [1, 2, 10]) (ko := [1]) (T' := [(1, .int .i64 r_1_3), (2, .ra 1 0), (10, .bool (decide (r_1_3 < 0)))]) (O' := [(1, .box [.int .i64 a0.fOp, .int .i64 a0.fN, .sl (List.map I a0.fType), .sl (List.map GTerm_S a0.fKids)])]) (by kernel_rfl) trivial (by kernel_rfl) (by kernel_rfl) ?_
    refine seqQ_norm ?_
    rcases itesome h with ⟨hb_1, h⟩ | ⟨hb_1, h⟩
    · refine Wp.condT (b := (decide (r_1_3 < 0))) (by kernel_rfl) (by kernel_rfl) hb_1 ?_
      refine Wp.seqN (by kernel_rfl) ?_
      refine Wp.reg tiok mix hc (by kernel_rfl) (ah := none) (rs := [some (.no)]) (kt := [4]) (ko := []) (T' := [(4, .int .i64 (-1))]) (O' := []) (by kernel_rfl) trivial (by kernel_rfl) (by kernel_rfl) ?_
      refine seqQ_norm ?_
      refine Wp.retN (by kernel_rfl) ?_
      refine seqQ_ret ?_
      obtain rfl := Option.some.inj h
      exact RetQ.ret (fl := [true]) (by kernel_rfl)
    · refine Wp.condF (b := (decide (r_1_3 < 0))) (by kernel_rfl) (by kernel_rfl) hb_1 ?_
      refine Wp.skipN (by kernel_rfl) ?_
      refine seqQ_norm ?_
      refine Wp.seqN (by kernel_rfl) ?_
      obtain ⟨r_4_3, hr_4_3, h⟩ := bsome h
      refine Wp.reg tiok mix hc (by kernel_rfl) (ah := none) (rs := [some (.no), some (.no), some (.no), some (.call (.int .i64 r_4_3) [] 1), some (.no)]) (kt := [1]) (ko := []) (T' := [(1, .int .i64 r_4_3)]) (O' := []) (by kernel_rfl) (And.intro (laws_szTermS_ih _ _ hr_4_3) (And.intro bod_55 (And.intro (Or.inl rfl : ([] : List Nat) = [] ∨ noSh (.int .i64 r_4_3) = true) trivial))) (by kernel_rfl) (by kernel_rfl) ?_
      refine seqQ_norm ?_
      refine Wp.seqN (by kernel_rfl) ?_
      refine Wp.seqN (by kernel_rfl) ?_
      refine Wp.reg tiok mix hc (by kernel_rfl) (ah := none) (rs := [some (.no), some (.no)]) (kt := [1, 16]) (ko := []) (T' := [(1, .int .i64 r_4_3), (16, .bool (decide (r_4_3 < 0)))]) (O' := []) (by kernel_rfl) trivial (by kernel_rfl) (by kernel_rfl) ?_
      refine seqQ_norm ?_
      rcases itesome h with ⟨hb_2, h⟩ | ⟨hb_2, h⟩
      · refine Wp.condT (b := (decide (r_4_3 < 0))) (by kernel_rfl) (by kernel_rfl) hb_2 ?_
        refine Wp.seqN (by kernel_rfl) ?_
        refine Wp.reg tiok mix hc (by kernel_rfl) (ah := none) (rs := [some (.no)]) (kt := [4]) (ko := []) (T' := [(4, .int .i64 (-1))]) (O' := []) (by kernel_rfl) trivial (by kernel_rfl) (by kernel_rfl) ?_
        refine seqQ_norm ?_
        refine Wp.retN (by kernel_rfl) ?_
        refine seqQ_ret ?_
        obtain rfl := Option.some.inj h
        exact RetQ.ret (fl := [true]) (by kernel_rfl)
      · refine Wp.condF (b := (decide (r_4_3 < 0))) (by kernel_rfl) (by kernel_rfl) hb_2 ?_
        refine Wp.skipN (by kernel_rfl) ?_
        refine seqQ_norm ?_
        refine Wp.seqN (by kernel_rfl) ?_
        refine Wp.reg tiok mix hc (by kernel_rfl) (ah := none) (rs := [some (.no), some (.no)]) (kt := [4]) (ko := []) (T' := [(4, .int .i64 r_4_3)]) (O' := []) (by kernel_rfl) trivial (by kernel_rfl) (by kernel_rfl) ?_
        refine seqQ_norm ?_
        refine Wp.retN (by kernel_rfl) ?_
        obtain rfl := Option.some.inj h
        exact RetQ.ret (fl := [true]) (by kernel_rfl)
  · rintro laws_szTermS_l0_f laws_szTermS_l0_ih ⟨a0, left1⟩ r h
    show FnSound Try.prog 55 [.sl (List.map GTerm_S a0), .int .i64 left1] (.int .i64 r) []
    refine FnSound.body0 tiok (fn := Try.f55) (code := B55) (by kernel_rfl) (by kernel_rfl) (by kernel_rfl) (by kernel_rfl) (nt := 27) (by kernel_rfl) (by kernel_rfl) (T := [(0, .sl (List.map GTerm_S a0)), (1, .int .i64 left1)]) (O := []) (by kernel_rfl) (by kernel_rfl) (fun c hc => ?_)
    refine Wp.seqN (by kernel_rfl) ?_
    refine Wp.reg tiok mix hc (by kernel_rfl) (ah := none) (rs := [some (.no)]) (kt := [0, 1]) (ko := []) (T' := [(0, .sl (List.map GTerm_S a0)), (1, .int .i64 left1)]) (O' := []) (by kernel_rfl) trivial (by kernel_rfl) (by kernel_rfl) ?_
    refine seqQ_norm ?_
    refine Wp.seqN (by kernel_rfl) ?_
    refine Wp.reg tiok mix hc (by kernel_rfl) (ah := none) (rs := [some (.no), some (.no), some (.eqv (.no) ⟨[(8, .int .i64 (a0.length : Int))], [], []⟩), some (.no), some (.no)]) (kt := [0, 1]) (ko := []) (T' := [(0, .sl (List.map GTerm_S a0)), (1, .int .i64 (wr (left1 - (a0.length : Int))))]) (O' := []) (by kernel_rfl) (And.intro (lenT (d := 8) GTerm_S a0) trivial) (by kernel_rfl) (by kernel_rfl) ?_
    refine seqQ_norm ?_
    refine Wp.seqN (by kernel_rfl) ?_
    refine Wp.seqN (by kernel_rfl) ?_
    refine Wp.reg tiok mix hc (by kernel_rfl) (ah := none) (rs := [some (.no), some (.no)]) (kt := [0, 1, 11]) (ko := []) (T' := [(0, .sl (List.map GTerm_S a0)), (1, .int .i64 (wr (left1 - (a0.length : Int)))), (11, .bool (decide ((wr (left1 - (a0.length : Int))) < 0)))]) (O' := []) (by kernel_rfl) trivial (by kernel_rfl) (by kernel_rfl) ?_
    refine seqQ_norm ?_
    rcases itesome h with ⟨hb_1, h⟩ | ⟨hb_1, h⟩
    · refine Wp.condT (b := (decide ((wr (left1 - (a0.length : Int))) < 0))) (by kernel_rfl) (by kernel_rfl) hb_1 ?_
      refine Wp.seqN (by kernel_rfl) ?_
      refine Wp.reg tiok mix hc (by kernel_rfl) (ah := none) (rs := [some (.no)]) (kt := [4]) (ko := []) (T' := [(4, .int .i64 (-1))]) (O' := []) (by kernel_rfl) trivial (by kernel_rfl) (by kernel_rfl) ?_
      refine seqQ_norm ?_
      refine Wp.retN (by kernel_rfl) ?_
      refine seqQ_ret ?_
      obtain rfl := Option.some.inj h
      exact RetQ.ret (fl := [true]) (by kernel_rfl)
    · refine Wp.condF (b := (decide ((wr (left1 - (a0.length : Int))) < 0))) (by kernel_rfl) (by kernel_rfl) hb_1 ?_
      refine Wp.skipN (by kernel_rfl) ?_
      refine seqQ_norm ?_
      refine Wp.seqN (by kernel_rfl) ?_
      refine Wp.seqN (by kernel_rfl) ?_
      refine Wp.reg tiok mix hc (by kernel_rfl) (ah := none) (rs := [some (.no)]) (kt := [0, 1, 5]) (ko := []) (T' := [(0, .sl (List.map GTerm_S a0)), (1, .int .i64 (wr (left1 - (a0.length : Int)))), (5, .int .i64 0)]) (O' := []) (by kernel_rfl) trivial (by kernel_rfl) (by kernel_rfl) ?_
      refine seqQ_norm ?_
      refine Wp.blockN (i := 0) (by kernel_rfl) ?_
      obtain ⟨fl, hl_9, h⟩ := bsome h
      have hL := laws_szTermS_l0_ih _ _ hl_9 c hc
      refine Wp.loopN (by kernel_rfl) ?_
      rcases fl with left_8 | r
      · refine WpL.into (e := (.exit 0)) (mkS [(1, .int .i64 left_8)] []) hL ?_
        refine blockQ_hit ?_
        refine seqQ_norm ?_
        refine Wp.seqN (by kernel_rfl) ?_
        refine Wp.reg tiok mix hc (by kernel_rfl) (ah := none) (rs := [some (.no), some (.no)]) (kt := [4]) (ko := []) (T' := [(4, .int .i64 left_8)]) (O' := []) (by kernel_rfl) trivial (by kernel_rfl) (by kernel_rfl) ?_
        refine seqQ_norm ?_
        refine Wp.retN (by kernel_rfl) ?_
        obtain rfl := Option.some.inj h
        exact RetQ.ret (fl := [true]) (by kernel_rfl)
      · refine WpL.mono hL ?_
        rintro _ _ ⟨rfl, hfin⟩
        refine blockQ_ret ?_
        refine seqQ_ret ?_
        obtain rfl := Option.some.inj h
        exact ⟨.inl rfl, hfin⟩
  · rintro laws_szTerm_f laws_szTermS_l0_f laws_szTerm_ih laws_szTermS_l0_ih ⟨a0, left_4, i_5⟩ r h
    intro c hc
    show WpL Try.prog c (cl (cl (cr (cl (cr (cr (cr B55))))))) (laws_szTermS_F1 c r) (mkS [(0, .sl (List.map GTerm_S a0)), (1, .int .i64 left_4), (5, .int .i64 i_5)] [])
    refine WpL.step ?_
    refine Wp.seqN (by kernel_rfl) ?_
    refine Wp.seqN (by kernel_rfl) ?_
    refine Wp.reg tiok mix hc (by kernel_rfl) (ah := none) (rs := [some (.no), some (.no), some (.eqv (.no) ⟨[(14, .int .i64 (a0.length : Int))], [], []⟩), some (.no)]) (kt := [0, 1, 5, 15]) (ko := []) (T' := [(0, .sl (List.map GTerm_S a0)), (1, .int .i64 left_4), (5, .int .i64 i_5), (15, .bool (decide (i_5 < (a0.length : Int))))]) (O' := []) (by kernel_rfl) (And.intro (lenT (d := 14) GTerm_S a0) trivial) (by kernel_rfl) (by kernel_rfl) ?_
    refine seqQ_norm ?_
    rcases itesome h with ⟨hb_6, h⟩ | ⟨hb_6, h⟩
    · refine Wp.condT (b := (decide (i_5 < (a0.length : Int)))) (by kernel_rfl) (by kernel_rfl) hb_6 ?_
      refine Wp.skipN (by kernel_rfl) ?_
      refine seqQ_norm ?_
      refine Wp.seqN (by kernel_rfl) ?_
      refine Wp.blockN (i := 1) (by kernel_rfl) ?_
      refine Wp.seqN (by kernel_rfl) ?_
      obtain ⟨e_7_2, hi_7_2, h⟩ := bsome h
      obtain ⟨r_7_5, hr_7_5, h⟩ := bsome h
      refine Wp.reg tiok mix hc (by kernel_rfl) (ah := none) (rs := [some (.no), some (.no), some (.el (.agg [.int .i64 e_7_2.fOp, .int .i64 e_7_2.fN, .sl (List.map I e_7_2.fType), .sl (List.map GTerm_S e_7_2.fKids)])), some (.no), some (.no), some (.call (.int .i64 r_7_5) [] 1), some (.no)]) (kt := [0, 1, 5]) (ko := []) (T' := [(0, .sl (List.map GTerm_S a0)), (1, .int .i64 r_7_5), (5, .int .i64 i_5)]) (O' := []) (by kernel_rfl) (And.intro (idx_sl (enc := GTerm_S) (x := .agg [.int .i64 e_7_2.fOp, .int .i64 e_7_2.fN, .sl (List.map I e_7_2.fType), .sl (List.map GTerm_S e_7_2.fKids)]) hi_7_2 (eq_GTerm_S e_7_2)) (And.intro (laws_szTerm_ih _ _ hr_7_5) (And.intro bod_23 (And.intro (Or.inl rfl : ([] : List Nat) = [] ∨ noSh (.int .i64 r_7_5) = true) trivial)))) (by kernel_rfl) (by kernel_rfl) ?_
      refine seqQ_norm ?_
      refine Wp.seqN (by kernel_rfl) ?_
      refine Wp.reg tiok mix hc (by kernel_rfl) (ah := none) (rs := [some (.no), some (.no)]) (kt := [0, 1, 5, 25]) (ko := []) (T' := [(0, .sl (List.map GTerm_S a0)), (1, .int .i64 r_7_5), (5, .int .i64 i_5), (25, .bool (decide (r_7_5 < 0)))]) (O' := []) (by kernel_rfl) trivial (by kernel_rfl) (by kernel_rfl) ?_
      refine seqQ_norm ?_
      rcases itesome h with ⟨hb_7, h⟩ | ⟨hb_7, h⟩
      · refine Wp.condT (b := (decide (r_7_5 < 0))) (by kernel_rfl) (by kernel_rfl) hb_7 ?_
        refine Wp.seqN (by kernel_rfl) ?_
        refine Wp.reg tiok mix hc (by kernel_rfl) (ah := none) (rs := [some (.no)]) (kt := [4]) (ko := []) (T' := [(4, .int .i64 (-1))]) (O' := []) (by kernel_rfl) trivial (by kernel_rfl) (by kernel_rfl) ?_
        refine seqQ_norm ?_
        refine Wp.retN (by kernel_rfl) ?_
        refine blockQ_ret ?_
        refine seqQ_ret ?_
        refine loopQ_ret ?_
        obtain rfl := Option.some.inj h
        exact RetE.ret (fl := [true]) (by kernel_rfl)
      · refine Wp.condF (b := (decide (r_7_5 < 0))) (by kernel_rfl) (by kernel_rfl) hb_7 ?_
        refine Wp.skipN (by kernel_rfl) ?_
        refine blockQ_norm ?_
        refine seqQ_norm ?_
        refine Wp.reg tiok mix hc (by kernel_rfl) (ah := none) (rs := [some (.no), some (.no), some (.no)]) (kt := [0, 1, 5]) (ko := []) (T' := [(0, .sl (List.map GTerm_S a0)), (1, .int .i64 r_7_5), (5, .int .i64 (wr (i_5 + 1)))]) (O' := []) (by kernel_rfl) trivial (by kernel_rfl) (by kernel_rfl) ?_
        refine loopQ_norm ?_
        exact (laws_szTermS_l0_ih _ _ h c hc)
    · refine Wp.condF (b := (decide (i_5 < (a0.length : Int)))) (by kernel_rfl) (by kernel_rfl) hb_6 ?_
      refine Wp.exitN (i := 0) (by kernel_rfl) ?_
      refine seqQ_exit ?_
      refine loopQ_exit ?_
      obtain rfl := Option.some.inj h
      exact Into.view (fun a w hv => SRx.renL [] hv (by kernel_rfl) (by kernel_rfl) (by kernel_rfl))
theorem laws_szTerm_s : ∀ p r, laws_szTerm p = some r → M_laws_szTerm p r := laws_szTerm_all.1
theorem laws_szTermS_s : ∀ p r, laws_szTermS p = some r → M_laws_szTermS p r := laws_szTerm_all.2.1
theorem laws_szTermS_l0_s : ∀ p r, laws_szTermS_l0 p = some r → M_laws_szTermS_l0 p r := laws_szTerm_all.2.2
def laws_toIntS_F1 (c : Ctx) : (List Int) → Exit → AState → Prop
  | out_5 => Into c (.exit 0) (mkS [(3, .rs 1)] [(1, .arr (List.map I out_5))])
def laws_toIntS_l0 (p : (List Int) × (List Int) × Int) : Option ((List Int)) :=
  match p with
  | (a0, out_2, i_3) =>
    if (decide (i_3 < (a0.length : Int))) = true then
      (idx a0 i_3) >>= fun e_5_4 =>
      (idx out_2 i_3) >>= fun e_5_6 =>
      laws_toIntS_l0 (a0, (List.set out_2 (Int.toNat i_3) e_5_4), (wr (i_3 + 1)))
    else
      some (out_2)
  partial_fixpoint
def M_laws_toIntS_l0 (p : (List Int) × (List Int) × Int) (fl : (List Int)) : Prop :=
  match p with
  | (a0, out_2, i_3) => ∀ c : Ctx, c.nt = 22 → WpL Try.prog c (cl (cl (cr (cl (cr (cr B14)))))) (laws_toIntS_F1 c fl) (mkS [(0, .sl (List.map I a0)), (3, .rs 1), (4, .int .i64 i_3)] [(1, .arr (List.map I out_2))])
theorem laws_toIntS_l0_s : ∀ p r, laws_toIntS_l0 p = some r → M_laws_toIntS_l0 p r := by
  refine laws_toIntS_l0.partial_correctness M_laws_toIntS_l0 ?_
  rintro laws_toIntS_l0_f laws_toIntS_l0_ih ⟨a0, out_2, i_3⟩ r h
  intro c hc
  show WpL Try.prog c (cl (cl (cr (cl (cr (cr B14)))))) (laws_toIntS_F1 c r) (mkS [(0, .sl (List.map I a0)), (3, .rs 1), (4, .int .i64 i_3)] [(1, .arr (List.map I out_2))])
  refine WpL.step ?_
  refine Wp.seqN (by kernel_rfl) ?_
  refine Wp.seqN (by kernel_rfl) ?_
  refine Wp.reg tiok mix hc (by kernel_rfl) (ah := none) (rs := [some (.no), some (.no), some (.eqv (.no) ⟨[(10, .int .i64 (a0.length : Int))], [], []⟩), some (.no)]) (kt := [0, 3, 4, 11]) (ko := [1]) (T' := [(0, .sl (List.map I a0)), (3, .rs 1), (4, .int .i64 i_3), (11, .bool (decide (i_3 < (a0.length : Int))))]) (O' := [(1, .arr (List.map I out_2))]) (by kernel_rfl) (And.intro (lenT (d := 10) I a0) trivial) (by kernel_rfl) (by kernel_rfl) ?_
  refine seqQ_norm ?_
  rcases itesome h with ⟨hb_4, h⟩ | ⟨hb_4, h⟩
  · refine Wp.condT (b := (decide (i_3 < (a0.length : Int)))) (by kernel_rfl) (by kernel_rfl) hb_4 ?_
    refine Wp.skipN (by kernel_rfl) ?_
    refine seqQ_norm ?_
    refine Wp.seqN (by kernel_rfl) ?_
    refine Wp.blockN (i := 1) (by kernel_rfl) ?_
    obtain ⟨e_5_4, hi_5_4, h⟩ := bsome h
    obtain ⟨e_5_6, hi_5_6, h⟩ := bsome h
    refine Wp.reg tiok mix hc (by kernel_rfl) (ah := none) (rs := [some (.no), some (.no), some (.no), some (.no), some (.el (.int .i64 e_5_4)), some (.no), some (.no), some (.eqv (.mk 0 true) ⟨[], [(1, some (.arr (List.map I (List.set out_2 (Int.toNat i_3) e_5_4))))], []⟩)]) (kt := [0, 3, 4]) (ko := [1]) (T' := [(0, .sl (List.map I a0)), (3, .rs 1), (4, .int .i64 i_3)]) (O' := [(1, .arr (List.map I (List.set out_2 (Int.toNat i_3) e_5_4)))]) (by kernel_rfl) (And.intro (idx_sl (enc := I) (x := .int .i64 e_5_4) hi_5_4 (eq_I e_5_4)) (And.intro (idx_own (enc := I) hi_5_6) (And.intro (congrArg (fun z => (⟨[], [(1, some (.arr z))], []⟩ : Wr)) (set_row (enc := I) (i := Int.toNat i_3) (l := out_2) (v := e_5_4) (x := AV.int .i64 e_5_4) (eq_I e_5_4))) (And.intro (own_set (enc := I) (sz := 1) sz_I hi_5_6) trivial)))) (by kernel_rfl) (by kernel_rfl) ?_
    refine blockQ_norm ?_
    refine seqQ_norm ?_
    refine Wp.reg tiok mix hc (by kernel_rfl) (ah := none) (rs := [some (.no), some (.no), some (.no)]) (kt := [0, 3, 4]) (ko := [1]) (T' := [(0, .sl (List.map I a0)), (3, .rs 1), (4, .int .i64 (wr (i_3 + 1)))]) (O' := [(1, .arr (List.map I (List.set out_2 (Int.toNat i_3) e_5_4)))]) (by kernel_rfl) trivial (by kernel_rfl) (by kernel_rfl) ?_
    refine loopQ_norm ?_
    exact (laws_toIntS_l0_ih _ _ h c hc)
  · refine Wp.condF (b := (decide (i_3 < (a0.length : Int)))) (by kernel_rfl) (by kernel_rfl) hb_4 ?_
    refine Wp.exitN (i := 0) (by kernel_rfl) ?_
    refine seqQ_exit ?_
    refine loopQ_exit ?_
    obtain rfl := Option.some.inj h
    exact Into.view (fun a w hv => SRx.renL [] hv (by kernel_rfl) (by kernel_rfl) (by kernel_rfl))
def laws_toIntS (a0 : (List Int)) : Option ((List Int)) :=
    (chk (0 ≤ (a0.length : Int) ∧ (Int.toNat (a0.length : Int)) * 8 ≤ 140737488355328)) >>= fun _ =>
    (laws_toIntS_l0 (a0, (List.replicate (Int.toNat (a0.length : Int)) 0), 0)) >>= fun out_5 =>
    some out_5
def M_laws_toIntS (a0 : (List Int)) (r : (List Int)) : Prop :=
  FnSound Try.prog 14 [.sl (List.map I a0)] (.osl (List.map I r)) []
theorem laws_toIntS_s : ∀ p r, laws_toIntS p = some r → M_laws_toIntS p r := by
  rintro a0 r h
  unfold laws_toIntS at h
  show FnSound Try.prog 14 [.sl (List.map I a0)] (.osl (List.map I r)) []
  refine FnSound.body0 tiok (fn := Try.f14) (code := B14) (by kernel_rfl) (by kernel_rfl) (by kernel_rfl) (by kernel_rfl) (nt := 22) (by kernel_rfl) (by kernel_rfl) (T := [(0, .sl (List.map I a0))]) (O := []) (by kernel_rfl) (by kernel_rfl) (fun c hc => ?_)
  refine Wp.seqN (by kernel_rfl) ?_
  refine Wp.reg tiok mix hc (by kernel_rfl) (ah := none) (rs := [some (.no)]) (kt := [0]) (ko := []) (T' := [(0, .sl (List.map I a0))]) (O' := []) (by kernel_rfl) trivial (by kernel_rfl) (by kernel_rfl) ?_
  refine seqQ_norm ?_
  refine Wp.seqN (by kernel_rfl) ?_
  obtain ⟨_, hk_1_2, h⟩ := bsome h
  refine Wp.reg tiok mix hc (by kernel_rfl) (ah := none) (rs := [some (.no), some (.eqv (.no) ⟨[(6, .int .i64 (a0.length : Int))], [], []⟩), some (.eqv (.mk 1 true) ⟨[(7, .rs 1)], [(1, some (.arr (List.map I (List.replicate (Int.toNat (a0.length : Int)) 0))))], [1]⟩), some (.no)]) (kt := [0, 3]) (ko := [1]) (T' := [(0, .sl (List.map I a0)), (3, .rs 1)]) (O' := [(1, .arr (List.map I (List.replicate (Int.toNat (a0.length : Int)) 0)))]) (by kernel_rfl) (And.intro (lenT (d := 6) I a0) (And.intro (congrArg (fun z => (⟨[(7, .rs 1)], [(1, some (.arr z))], [1]⟩ : Wr)) (rep_row (enc := I) (n := Int.toNat (a0.length : Int)) (x := AV.int .i64 0) (eq_I 0))) (And.intro (And.intro (Eq.refl (a0.length : Int)) (chk_of hk_1_2)) trivial))) (by kernel_rfl) (by kernel_rfl) ?_
  refine seqQ_norm ?_
  refine Wp.seqN (by kernel_rfl) ?_
  refine Wp.seqN (by kernel_rfl) ?_
  refine Wp.reg tiok mix hc (by kernel_rfl) (ah := none) (rs := [some (.no)]) (kt := [0, 3, 4]) (ko := [1]) (T' := [(0, .sl (List.map I a0)), (3, .rs 1), (4, .int .i64 0)]) (O' := [(1, .arr (List.map I (List.replicate (Int.toNat (a0.length : Int)) 0)))]) (by kernel_rfl) trivial (by kernel_rfl) (by kernel_rfl) ?_
  refine seqQ_norm ?_
  refine Wp.blockN (i := 0) (by kernel_rfl) ?_
  obtain ⟨out_5, hl_6, h⟩ := bsome h
  have hL := laws_toIntS_l0_s _ _ hl_6 c hc
  refine Wp.loopN (by kernel_rfl) ?_
  · refine WpL.into (e := (.exit 0)) (mkS [(3, .rs 1)] [(1, .arr (List.map I out_5))]) hL ?_
    refine blockQ_hit ?_
    refine seqQ_norm ?_
    refine Wp.seqN (by kernel_rfl) ?_
    refine Wp.reg tiok mix hc (by kernel_rfl) (ah := none) (rs := [some (.no), some (.no)]) (kt := [2]) (ko := [1]) (T' := [(2, .rs 1)]) (O' := [(1, .arr (List.map I out_5))]) (by kernel_rfl) trivial (by kernel_rfl) (by kernel_rfl) ?_
    refine seqQ_norm ?_
    refine Wp.retN (by kernel_rfl) ?_
    obtain rfl := Option.some.inj h
    exact RetQ.ret (fl := [true]) (by kernel_rfl)
def laws_toTermS_F1 (c : Ctx) : (List GTerm) → Exit → AState → Prop
  | out_5 => Into c (.exit 0) (mkS [(3, .rs 1)] [(1, .arr (List.map GTerm_O out_5))])
mutual
def laws_toTerm (a0 : GTerm) : Option (GTerm) :=
    (laws_toIntS a0.fType) >>= fun r_4_2 =>
    (laws_toTermS a0.fKids) >>= fun r_5_2 =>
    some (GTerm.mk a0.fOp a0.fN r_4_2 r_5_2)
  partial_fixpoint
def laws_toTermS (a0 : (List GTerm)) : Option ((List GTerm)) :=
    (chk (0 ≤ (a0.length : Int) ∧ (Int.toNat (a0.length : Int)) * 64 ≤ 140737488355328)) >>= fun _ =>
    (laws_toTermS_l0 (a0, (List.replicate (Int.toNat (a0.length : Int)) (GTerm.mk 0 0 [] [])), 0)) >>= fun out_5 =>
    some out_5
  partial_fixpoint
def laws_toTermS_l0 (p : (List GTerm) × (List GTerm) × Int) : Option ((List GTerm)) :=
  match p with
  | (a0, out_2, i_3) =>
    if (decide (i_3 < (a0.length : Int))) = true then
      (idx a0 i_3) >>= fun e_5_4 =>
      (laws_toTerm e_5_4) >>= fun r_5_6 =>
      (idx out_2 i_3) >>= fun e_5_7 =>
      laws_toTermS_l0 (a0, (List.set out_2 (Int.toNat i_3) r_5_6), (wr (i_3 + 1)))
    else
      some (out_2)
  partial_fixpoint
end
def M_laws_toTerm (a0 : GTerm) (r : GTerm) : Prop :=
  FnSound Try.prog 25 [.agg [.int .i64 a0.fOp, .int .i64 a0.fN, .sl (List.map I a0.fType), .sl (List.map GTerm_S a0.fKids)]] (.agg [.int .i64 r.fOp, .int .i64 r.fN, .osl (List.map I r.fType), .osl (List.map GTerm_O r.fKids)]) []
def M_laws_toTermS (a0 : (List GTerm)) (r : (List GTerm)) : Prop :=
  FnSound Try.prog 59 [.sl (List.map GTerm_S a0)] (.osl (List.map GTerm_O r)) []
def M_laws_toTermS_l0 (p : (List GTerm) × (List GTerm) × Int) (fl : (List GTerm)) : Prop :=
  match p with
  | (a0, out_2, i_3) => ∀ c : Ctx, c.nt = 23 → WpL Try.prog c (cl (cl (cr (cl (cr (cr B59)))))) (laws_toTermS_F1 c fl) (mkS [(0, .sl (List.map GTerm_S a0)), (3, .rs 1), (4, .int .i64 i_3)] [(1, .arr (List.map GTerm_O out_2))])
theorem laws_toTerm_all : (∀ p r, laws_toTerm p = some r → M_laws_toTerm p r) ∧ (∀ p r, laws_toTermS p = some r → M_laws_toTermS p r) ∧ (∀ p r, laws_toTermS_l0 p = some r → M_laws_toTermS_l0 p r) := by
  refine laws_toTerm.mutual_partial_correctness M_laws_toTerm M_laws_toTermS M_laws_toTermS_l0 ?_ ?_ ?_
  · rintro laws_toTermS_f laws_toTermS_ih a0 r h
    show FnSound Try.prog 25 [.agg [.int .i64 a0.fOp, .int .i64 a0.fN, .sl (List.map I a0.fType), .sl (List.map GTerm_S a0.fKids)]] (.agg [.int .i64 r.fOp, .int .i64 r.fN, .osl (List.map I r.fType), .osl (List.map GTerm_O r.fKids)]) []
    refine FnSound.body0 tiok (fn := Try.f25) (code := B25) (by kernel_rfl) (by kernel_rfl) (by kernel_rfl) (by kernel_rfl) (nt := 19) (by kernel_rfl) (by kernel_rfl) (T := [(0, .agg [.int .i64 a0.fOp, .int .i64 a0.fN, .sl (List.map I a0.fType), .sl (List.map GTerm_S a0.fKids)])]) (O := []) (by kernel_rfl) (by kernel_rfl) (fun c hc => ?_)
    refine Wp.seqN (by kernel_rfl) ?_
    refine Wp.reg tiok mix hc (by kernel_rfl) (ah := none) (rs := [some (.new 1), some (.new 2)]) (kt := [1, 2]) (ko := [1, 2]) (T' := [(1, .ra 1 0), (2, .ra 2 0)]) (O' := [(1, .box [.int .i64 a0.fOp, .int .i64 a0.fN, .sl (List.map I a0.fType), .sl (List.map GTerm_S a0.fKids)]), (2, .box [.int .i64 0, .int .i64 0, .nils, .nils])]) (by kernel_rfl) trivial (by kernel_rfl) (by kernel_rfl) ?_
    refine seqQ_norm ?_
    refine Wp.seqN (by kernel_rfl) ?_
    refine Wp.reg tiok mix hc (by kernel_rfl) (ah := none) (rs := [some (.new 3)]) (kt := [1, 2, 3]) (ko := [1, 2, 3]) (T' := [(1, .ra 1 0), (2, .ra 2 0), (3, .ra 3 0)]) (O' := [(1, .box [.int .i64 a0.fOp, .int .i64 a0.fN, .sl (List.map I a0.fType), .sl (List.map GTerm_S a0.fKids)]), (2, .box [.int .i64 0, .int .i64 0, .nils, .nils]), (3, .box [.int .i64 0, .int .i64 0, .nils, .nils])]) (by kernel_rfl) trivial (by kernel_rfl) (by kernel_rfl) ?_
    refine seqQ_norm ?_
    refine Wp.seqN (by kernel_rfl) ?_
    refine Wp.reg tiok mix hc (by kernel_rfl) (ah := none) (rs := [some (.no), some (.no), some (.no), some (.no)]) (kt := [1, 2, 3]) (ko := [1, 2, 3]) (T' := [(1, .ra 1 0), (2, .ra 2 0), (3, .ra 3 0)]) (O' := [(1, .box [.int .i64 a0.fOp, .int .i64 a0.fN, .sl (List.map I a0.fType), .sl (List.map GTerm_S a0.fKids)]), (2, .box [.int .i64 0, .int .i64 0, .nils, .nils]), (3, .box [.int .i64 a0.fOp, .int .i64 0, .nils, .nils])]) (by kernel_rfl) trivial (by kernel_rfl) (by kernel_rfl) ?_
    refine seqQ_norm ?_
    refine Wp.seqN (by kernel_rfl) ?_
    refine Wp.reg tiok mix hc (by kernel_rfl) (ah := none) (rs := [some (.no), some (.no), some (.no), some (.no)]) (kt := [1, 2, 3]) (ko := [1, 2, 3]) (T' := [(1, .ra 1 0), (2, .ra 2 0), (3, .ra 3 0)]) (O' := [(1, .box [.int .i64 a0.fOp, .int .i64 a0.fN, .sl (List.map I a0.fType), .sl (List.map GTerm_S a0.fKids)]), (2, .box [.int .i64 0, .int .i64 0, .nils, .nils]), (3, .box [.int .i64 a0.fOp, .int .i64 a0.fN, .nils, .nils])]) (by kernel_rfl) trivial (by kernel_rfl) (by kernel_rfl) ?_
    refine seqQ_norm ?_
    refine Wp.seqN (by kernel_rfl) ?_
    obtain ⟨r_4_2, hr_4_2, h⟩ := bsome h
    refine Wp.reg tiok mix hc (by kernel_rfl) (ah := none) (rs := [some (.no), some (.no), some (.call (.osl (List.map I r_4_2)) [] 4), some (.no), some (.no)]) (kt := [1, 2, 3]) (ko := [1, 2, 3, 4]) (T' := [(1, .ra 1 0), (2, .ra 2 0), (3, .ra 3 0)]) (O' := [(1, .box [.int .i64 a0.fOp, .int .i64 a0.fN, .sl (List.map I a0.fType), .sl (List.map GTerm_S a0.fKids)]), (2, .box [.int .i64 0, .int .i64 0, .nils, .nils]), (3, .box [.int .i64 a0.fOp, .int .i64 a0.fN, .rs 4, .nils]), (4, .arr (List.map I r_4_2))]) (by kernel_rfl) (And.intro (laws_toIntS_s _ _ hr_4_2) (And.intro bod_14 (And.intro (Or.inl rfl : ([] : List Nat) = [] ∨ noSh (.osl (List.map I r_4_2)) = true) trivial))) (by kernel_rfl) (by kernel_rfl) ?_
    refine seqQ_norm ?_
    refine Wp.seqN (by kernel_rfl) ?_
    obtain ⟨r_5_2, hr_5_2, h⟩ := bsome h
    refine Wp.reg tiok mix hc (by kernel_rfl) (ah := none) (rs := [some (.no), some (.no), some (.call (.osl (List.map GTerm_O r_5_2)) [] 5), some (.no), some (.no)]) (kt := [2, 3]) (ko := [2, 3, 4, 5]) (T' := [(2, .ra 2 0), (3, .ra 3 0)]) (O' := [(2, .box [.int .i64 0, .int .i64 0, .nils, .nils]), (3, .box [.int .i64 a0.fOp, .int .i64 a0.fN, .rs 4, .rs 5]), (4, .arr (List.map I r_4_2)), (5, .arr (List.map GTerm_O r_5_2))]) (by kernel_rfl) (And.intro (laws_toTermS_ih _ _ hr_5_2) (And.intro bod_59 (And.intro (Or.inl rfl : ([] : List Nat) = [] ∨ noSh (.osl (List.map GTerm_O r_5_2)) = true) trivial))) (by kernel_rfl) (by kernel_rfl) ?_
    refine seqQ_norm ?_
    refine Wp.seqN (by kernel_rfl) ?_
    refine Wp.reg tiok mix hc (by kernel_rfl) (ah := none) (rs := [some (.no), some (.no)]) (kt := [2]) (ko := [2, 4, 5]) (T' := [(2, .ra 2 0)]) (O' := [(2, .box [.int .i64 a0.fOp, .int .i64 a0.fN, .rs 4, .rs 5]), (4, .arr (List.map I r_4_2)), (5, .arr (List.map GTerm_O r_5_2))]) (by kernel_rfl) trivial (by kernel_rfl) (by kernel_rfl) ?_
    refine seqQ_norm ?_
    refine Wp.retN (by kernel_rfl) ?_
    obtain rfl := Option.some.inj h
    exact RetQ.ret (fl := [true]) (by kernel_rfl)
  · rintro laws_toTermS_l0_f laws_toTermS_l0_ih a0 r h
    show FnSound Try.prog 59 [.sl (List.map GTerm_S a0)] (.osl (List.map GTerm_O r)) []
    refine FnSound.body0 tiok (fn := Try.f59) (code := B59) (by kernel_rfl) (by kernel_rfl) (by kernel_rfl) (by kernel_rfl) (nt := 23) (by kernel_rfl) (by kernel_rfl) (T := [(0, .sl (List.map GTerm_S a0))]) (O := []) (by kernel_rfl) (by kernel_rfl) (fun c hc => ?_)
    refine Wp.seqN (by kernel_rfl) ?_
    refine Wp.reg tiok mix hc (by kernel_rfl) (ah := none) (rs := [some (.no)]) (kt := [0]) (ko := []) (T' := [(0, .sl (List.map GTerm_S a0))]) (O' := []) (by kernel_rfl) trivial (by kernel_rfl) (by kernel_rfl) ?_
    refine seqQ_norm ?_
    refine Wp.seqN (by kernel_rfl) ?_
    obtain ⟨_, hk_1_2, h⟩ := bsome h
    refine Wp.reg tiok mix hc (by kernel_rfl) (ah := none) (rs := [some (.no), some (.eqv (.no) ⟨[(6, .int .i64 (a0.length : Int))], [], []⟩), some (.eqv (.mk 1 true) ⟨[(7, .rs 1)], [(1, some (.arr (List.map GTerm_O (List.replicate (Int.toNat (a0.length : Int)) (GTerm.mk 0 0 [] [])))))], [1]⟩), some (.no)]) (kt := [0, 3]) (ko := [1]) (T' := [(0, .sl (List.map GTerm_S a0)), (3, .rs 1)]) (O' := [(1, .arr (List.map GTerm_O (List.replicate (Int.toNat (a0.length : Int)) (GTerm.mk 0 0 [] []))))]) (by kernel_rfl) (And.intro (lenT (d := 6) GTerm_S a0) (And.intro (congrArg (fun z => (⟨[(7, .rs 1)], [(1, some (.arr z))], [1]⟩ : Wr)) (rep_row (enc := GTerm_O) (n := Int.toNat (a0.length : Int)) (x := AV.agg [.int .i64 ((GTerm.mk 0 0 [] []).fOp), .int .i64 ((GTerm.mk 0 0 [] []).fN), .osl (List.map I ((GTerm.mk 0 0 [] []).fType)), .osl (List.map GTerm_O ((GTerm.mk 0 0 [] []).fKids))]) (eq_GTerm_O (GTerm.mk 0 0 [] [])))) (And.intro (And.intro (Eq.refl (a0.length : Int)) (chk_of hk_1_2)) trivial))) (by kernel_rfl) (by kernel_rfl) ?_
    refine seqQ_norm ?_
    refine Wp.seqN (by kernel_rfl) ?_
    refine Wp.seqN (by kernel_rfl) ?_
    refine Wp.reg tiok mix hc (by kernel_rfl) (ah := none) (rs := [some (.no)]) (kt := [0, 3, 4]) (ko := [1]) (T' := [(0, .sl (List.map GTerm_S a0)), (3, .rs 1), (4, .int .i64 0)]) (O' := [(1, .arr (List.map GTerm_O (List.replicate (Int.toNat (a0.length : Int)) (GTerm.mk 0 0 [] []))))]) (by kernel_rfl) trivial (by kernel_rfl) (by kernel_rfl) ?_
    refine seqQ_norm ?_
    refine Wp.blockN (i := 0) (by kernel_rfl) ?_
    obtain ⟨out_5, hl_6, h⟩ := bsome h
    have hL := laws_toTermS_l0_ih _ _ hl_6 c hc
    refine Wp.loopN (by kernel_rfl) ?_
    · refine WpL.into (e := (.exit 0)) (mkS [(3, .rs 1)] [(1, .arr (List.map GTerm_O out_5))]) hL ?_
      refine blockQ_hit ?_
      refine seqQ_norm ?_
      refine Wp.seqN (by kernel_rfl) ?_
      refine Wp.reg tiok mix hc (by kernel_rfl) (ah := none) (rs := [some (.no), some (.no)]) (kt := [2]) (ko := [1]) (T' := [(2, .rs 1)]) (O' := [(1, .arr (List.map GTerm_O out_5))]) (by kernel_rfl) trivial (by kernel_rfl) (by kernel_rfl) ?_
      refine seqQ_norm ?_
      refine Wp.retN (by kernel_rfl) ?_
      obtain rfl := Option.some.inj h
      exact RetQ.ret (fl := [true]) (by kernel_rfl)
  · rintro laws_toTerm_f laws_toTermS_l0_f laws_toTerm_ih laws_toTermS_l0_ih ⟨a0, out_2, i_3⟩ r h
    intro c hc
    show WpL Try.prog c (cl (cl (cr (cl (cr (cr B59)))))) (laws_toTermS_F1 c r) (mkS [(0, .sl (List.map GTerm_S a0)), (3, .rs 1), (4, .int .i64 i_3)] [(1, .arr (List.map GTerm_O out_2))])
    refine WpL.step ?_
    refine Wp.seqN (by kernel_rfl) ?_
    refine Wp.seqN (by kernel_rfl) ?_
    refine Wp.reg tiok mix hc (by kernel_rfl) (ah := none) (rs := [some (.no), some (.no), some (.eqv (.no) ⟨[(10, .int .i64 (a0.length : Int))], [], []⟩), some (.no)]) (kt := [0, 3, 4, 11]) (ko := [1]) (T' := [(0, .sl (List.map GTerm_S a0)), (3, .rs 1), (4, .int .i64 i_3), (11, .bool (decide (i_3 < (a0.length : Int))))]) (O' := [(1, .arr (List.map GTerm_O out_2))]) (by kernel_rfl) (And.intro (lenT (d := 10) GTerm_S a0) trivial) (by kernel_rfl) (by kernel_rfl) ?_
    refine seqQ_norm ?_
    rcases itesome h with ⟨hb_4, h⟩ | ⟨hb_4, h⟩
    · refine Wp.condT (b := (decide (i_3 < (a0.length : Int)))) (by kernel_rfl) (by kernel_rfl) hb_4 ?_
      refine Wp.skipN (by kernel_rfl) ?_
      refine seqQ_norm ?_
      refine Wp.seqN (by kernel_rfl) ?_
      refine Wp.blockN (i := 1) (by kernel_rfl) ?_
      obtain ⟨e_5_4, hi_5_4, h⟩ := bsome h
      obtain ⟨r_5_6, hr_5_6, h⟩ := bsome h
      obtain ⟨e_5_7, hi_5_7, h⟩ := bsome h
      refine Wp.reg tiok mix hc (by kernel_rfl) (ah := none) (rs := [some (.no), some (.no), some (.no), some (.no), some (.el (.agg [.int .i64 e_5_4.fOp, .int .i64 e_5_4.fN, .sl (List.map I e_5_4.fType), .sl (List.map GTerm_S e_5_4.fKids)])), some (.no), some (.call (.agg [.int .i64 r_5_6.fOp, .int .i64 r_5_6.fN, .osl (List.map I r_5_6.fType), .osl (List.map GTerm_O r_5_6.fKids)]) [] 4), some (.no), some (.eqv (.mk 0 true) ⟨[], [(1, some (.arr (List.map GTerm_O (List.set out_2 (Int.toNat i_3) r_5_6)))), (4, none), (5, none)], []⟩)]) (kt := [0, 3, 4]) (ko := [1]) (T' := [(0, .sl (List.map GTerm_S a0)), (3, .rs 1), (4, .int .i64 i_3)]) (O' := [(1, .arr (List.map GTerm_O (List.set out_2 (Int.toNat i_3) r_5_6)))]) (by kernel_rfl) (And.intro (idx_sl (enc := GTerm_S) (x := .agg [.int .i64 e_5_4.fOp, .int .i64 e_5_4.fN, .sl (List.map I e_5_4.fType), .sl (List.map GTerm_S e_5_4.fKids)]) hi_5_4 (eq_GTerm_S e_5_4)) (And.intro (laws_toTerm_ih _ _ hr_5_6) (And.intro bod_25 (And.intro (Or.inl rfl : ([] : List Nat) = [] ∨ noSh (.agg [.int .i64 r_5_6.fOp, .int .i64 r_5_6.fN, .osl (List.map I r_5_6.fType), .osl (List.map GTerm_O r_5_6.fKids)]) = true) (And.intro (idx_own (enc := GTerm_O) hi_5_7) (And.intro (congrArg (fun z => (⟨[], [(1, some (.arr z)), (4, none), (5, none)], []⟩ : Wr)) (set_row (enc := GTerm_O) (i := Int.toNat i_3) (l := out_2) (v := r_5_6) (x := AV.agg [.int .i64 r_5_6.fOp, .int .i64 r_5_6.fN, AV.osl (List.map I r_5_6.fType), AV.osl (List.map GTerm_O r_5_6.fKids)]) (eq_GTerm_O r_5_6))) (And.intro (own_set (enc := GTerm_O) (sz := 4) sz_GTerm_O hi_5_7) trivial))))))) (by kernel_rfl) (by kernel_rfl) ?_
      refine blockQ_norm ?_
      refine seqQ_norm ?_
      refine Wp.reg tiok mix hc (by kernel_rfl) (ah := none) (rs := [some (.no), some (.no), some (.no)]) (kt := [0, 3, 4]) (ko := [1]) (T' := [(0, .sl (List.map GTerm_S a0)), (3, .rs 1), (4, .int .i64 (wr (i_3 + 1)))]) (O' := [(1, .arr (List.map GTerm_O (List.set out_2 (Int.toNat i_3) r_5_6)))]) (by kernel_rfl) trivial (by kernel_rfl) (by kernel_rfl) ?_
      refine loopQ_norm ?_
      exact (laws_toTermS_l0_ih _ _ h c hc)
    · refine Wp.condF (b := (decide (i_3 < (a0.length : Int)))) (by kernel_rfl) (by kernel_rfl) hb_4 ?_
      refine Wp.exitN (i := 0) (by kernel_rfl) ?_
      refine seqQ_exit ?_
      refine loopQ_exit ?_
      obtain rfl := Option.some.inj h
      exact Into.view (fun a w hv => SRx.renL [] hv (by kernel_rfl) (by kernel_rfl) (by kernel_rfl))
theorem laws_toTerm_s : ∀ p r, laws_toTerm p = some r → M_laws_toTerm p r := laws_toTerm_all.1
theorem laws_toTermS_s : ∀ p r, laws_toTermS p = some r → M_laws_toTermS p r := laws_toTerm_all.2.1
theorem laws_toTermS_l0_s : ∀ p r, laws_toTermS_l0 p = some r → M_laws_toTermS_l0 p r := laws_toTerm_all.2.2
def spec_l2Left_F1 (c : Ctx) : Int → Exit → AState → Prop
  | left_9 => Into c (.exit 0) (mkS [(1, .int .i64 left_9)] [])
mutual
def spec_l2Left (p : GTerm × Int) : Option (Int) :=
  match p with
  | (t0, left1) =>
    (spec_l2Left_l0 (t0, (wr (left1 - 1)), 0)) >>= fun left_9 =>
    some left_9
  partial_fixpoint
def spec_l2Left_l0 (p : GTerm × Int × Int) : Option (Int) :=
  match p with
  | (t0, left_4, k_5) =>
    (
      if (decide (k_5 < (t0.fKids.length : Int))) = true then
        some ((decide (left_4 ≥ 0)))
      else
        some (false)
    ) >>= fun v_6 =>
    if v_6 = true then
      (idx t0.fKids k_5) >>= fun e_5_3 =>
      (spec_l2Left (e_5_3, left_4)) >>= fun r_5_6 =>
      spec_l2Left_l0 (t0, r_5_6, (wr (k_5 + 1)))
    else
      some (left_4)
  partial_fixpoint
end
def M_spec_l2Left (p : GTerm × Int) (r : Int) : Prop :=
  match p with
  | (t0, left1) => FnSound Try.prog 84 [.agg [.int .i64 t0.fOp, .int .i64 t0.fN, .sl (List.map I t0.fType), .sl (List.map GTerm_S t0.fKids)], .int .i64 left1] (.int .i64 r) []
def M_spec_l2Left_l0 (p : GTerm × Int × Int) (fl : Int) : Prop :=
  match p with
  | (t0, left_4, k_5) => ∀ c : Ctx, c.nt = 27 → WpL Try.prog c (cl (cl (cr (cl (cr (cr B84)))))) (spec_l2Left_F1 c fl) (mkS [(1, .int .i64 left_4), (2, .ra 1 0), (5, .int .i64 k_5)] [(1, .box [.int .i64 t0.fOp, .int .i64 t0.fN, .sl (List.map I t0.fType), .sl (List.map GTerm_S t0.fKids)])])
theorem spec_l2Left_all : (∀ p r, spec_l2Left p = some r → M_spec_l2Left p r) ∧ (∀ p r, spec_l2Left_l0 p = some r → M_spec_l2Left_l0 p r) := by
  refine spec_l2Left.mutual_partial_correctness M_spec_l2Left M_spec_l2Left_l0 ?_ ?_
  · rintro spec_l2Left_l0_f spec_l2Left_l0_ih ⟨t0, left1⟩ r h
    show FnSound Try.prog 84 [.agg [.int .i64 t0.fOp, .int .i64 t0.fN, .sl (List.map I t0.fType), .sl (List.map GTerm_S t0.fKids)], .int .i64 left1] (.int .i64 r) []
    refine FnSound.body0 tiok (fn := Try.f84) (code := B84) (by kernel_rfl) (by kernel_rfl) (by kernel_rfl) (by kernel_rfl) (nt := 27) (by kernel_rfl) (by kernel_rfl) (T := [(0, .agg [.int .i64 t0.fOp, .int .i64 t0.fN, .sl (List.map I t0.fType), .sl (List.map GTerm_S t0.fKids)]), (1, .int .i64 left1)]) (O := []) (by kernel_rfl) (by kernel_rfl) (fun c hc => ?_)
    refine Wp.seqN (by kernel_rfl) ?_
    refine Wp.reg tiok mix hc (by kernel_rfl) (ah := none) (rs := [some (.new 1), some (.no)]) (kt := [1, 2]) (ko := [1]) (T' := [(1, .int .i64 left1), (2, .ra 1 0)]) (O' := [(1, .box [.int .i64 t0.fOp, .int .i64 t0.fN, .sl (List.map I t0.fType), .sl (List.map GTerm_S t0.fKids)])]) (by kernel_rfl) trivial (by kernel_rfl) (by kernel_rfl) ?_
    refine seqQ_norm ?_
    refine Wp.seqN (by kernel_rfl) ?_
    refine Wp.reg tiok mix hc (by kernel_rfl) (ah := none) (rs := [some (.no), some (.no), some (.no)]) (kt := [1, 2]) (ko := [1]) (T' := [(1, .int .i64 (wr (left1 - 1))), (2, .ra 1 0)]) (O' := [(1, .box [.int .i64 t0.fOp, .int .i64 t0.fN, .sl (List.map I t0.fType), .sl (List.map GTerm_S t0.fKids)])]) (by kernel_rfl) trivial (by kernel_rfl) (by kernel_rfl) ?_
    refine seqQ_norm ?_
    refine Wp.seqN (by kernel_rfl) ?_
    refine Wp.seqN (by kernel_rfl) ?_
    refine Wp.reg tiok mix hc (by kernel_rfl) (ah := none) (rs := [some (.no)]) (kt := [1, 2, 5]) (ko := [1]) (T' := [(1, .int .i64 (wr (left1 - 1))), (2, .ra 1 0), (5, .int .i64 0)]) (O' := [(1, .box [.int .i64 t0.fOp, .int .i64 t0.fN, .sl (List.map I t0.fType), .sl (List.map GTerm_S t0.fKids)])]) (by kernel_rfl) trivial (by kernel_rfl) (by kernel_rfl) ?_
    refine seqQ_norm ?_
    refine Wp.blockN (i := 0) (by kernel_rfl) ?_
    obtain ⟨left_9, hl_10, h⟩ := bsome h
    have hL := spec_l2Left_l0_ih _ _ hl_10 c hc
    refine Wp.loopN (by kernel_rfl) ?_
    · refine WpL.into (e := (.exit 0)) (mkS [(1, .int .i64 left_9)] []) hL ?_
      refine blockQ_hit ?_
      refine seqQ_norm ?_
      refine Wp.seqN (by kernel_rfl) ?_
      refine Wp.reg tiok mix hc (by kernel_rfl) (ah := none) (rs := [some (.no), some (.no)]) (kt := [4]) (ko := []) (T' := [(4, .int .i64 left_9)]) (O' := []) (by kernel_rfl) trivial (by kernel_rfl) (by kernel_rfl) ?_
      refine seqQ_norm ?_
      refine Wp.retN (by kernel_rfl) ?_
      obtain rfl := Option.some.inj h
      exact RetQ.ret (fl := [true]) (by kernel_rfl)
  · rintro spec_l2Left_f spec_l2Left_l0_f spec_l2Left_ih spec_l2Left_l0_ih ⟨t0, left_4, k_5⟩ r h
    intro c hc
    show WpL Try.prog c (cl (cl (cr (cl (cr (cr B84)))))) (spec_l2Left_F1 c r) (mkS [(1, .int .i64 left_4), (2, .ra 1 0), (5, .int .i64 k_5)] [(1, .box [.int .i64 t0.fOp, .int .i64 t0.fN, .sl (List.map I t0.fType), .sl (List.map GTerm_S t0.fKids)])])
    refine WpL.step ?_
    refine Wp.seqN (by kernel_rfl) ?_
    refine Wp.seqN (by kernel_rfl) ?_
    obtain ⟨v_6, hj_7, h⟩ := bsome h
    refine Wp.into (x := .normal) (mkS [(1, .int .i64 left_4), (2, .ra 1 0), (5, .int .i64 k_5), (16, .bool v_6)] [(1, .box [.int .i64 t0.fOp, .int .i64 t0.fN, .sl (List.map I t0.fType), .sl (List.map GTerm_S t0.fKids)])]) ?_ ?_
    · replace h := hj_7
      rcases itesome h with ⟨hb_3_0, h⟩ | ⟨hb_3_0, h⟩
      · refine Wp.reg tiok mix hc (by kernel_rfl) (ah := none) (rs := [some (.no), some (.no), some (.no), some (.eqv (.no) ⟨[(11, .int .i64 (t0.fKids.length : Int))], [], []⟩), some (.no), some (.no), some (.no), some (.no), some (.cond true)]) (kt := [1, 2, 5, 16]) (ko := [1]) (T' := [(1, .int .i64 left_4), (2, .ra 1 0), (5, .int .i64 k_5), (16, .bool (decide (left_4 ≥ 0)))]) (O' := [(1, .box [.int .i64 t0.fOp, .int .i64 t0.fN, .sl (List.map I t0.fType), .sl (List.map GTerm_S t0.fKids)])]) (by kernel_rfl) (And.intro (lenT (d := 11) GTerm_S t0.fKids) (And.intro hb_3_0 (And.intro hb_3_0 (And.intro hb_3_0 trivial)))) (by kernel_rfl) (by kernel_rfl) ?_
        obtain rfl := Option.some.inj h
        exact Into.mk
      · refine Wp.reg tiok mix hc (by kernel_rfl) (ah := none) (rs := [some (.no), some (.no), some (.no), some (.eqv (.no) ⟨[(11, .int .i64 (t0.fKids.length : Int))], [], []⟩), some (.no), some (.no), none, none, some (.cond false)]) (kt := [1, 2, 5, 16]) (ko := [1]) (T' := [(1, .int .i64 left_4), (2, .ra 1 0), (5, .int .i64 k_5), (16, .bool false)]) (O' := [(1, .box [.int .i64 t0.fOp, .int .i64 t0.fN, .sl (List.map I t0.fType), .sl (List.map GTerm_S t0.fKids)])]) (by kernel_rfl) (And.intro (lenT (d := 11) GTerm_S t0.fKids) (And.intro (neT hb_3_0 : (decide (k_5 < (t0.fKids.length : Int))) ≠ true) (And.intro (neT hb_3_0 : (decide (k_5 < (t0.fKids.length : Int))) ≠ true) (And.intro hb_3_0 trivial)))) (by kernel_rfl) (by kernel_rfl) ?_
        obtain rfl := Option.some.inj h
        exact Into.mk
    · clear hj_7
      refine seqQ_norm ?_
      rcases itesome h with ⟨hb_8, h⟩ | ⟨hb_8, h⟩
      · refine Wp.condT (b := v_6) (by kernel_rfl) (by kernel_rfl) hb_8 ?_
        refine Wp.skipN (by kernel_rfl) ?_
        refine seqQ_norm ?_
        refine Wp.seqN (by kernel_rfl) ?_
        refine Wp.blockN (i := 1) (by kernel_rfl) ?_
        obtain ⟨e_5_3, hi_5_3, h⟩ := bsome h
        obtain ⟨r_5_6, hr_5_6, h⟩ := bsome h
        refine Wp.reg tiok mix hc (by kernel_rfl) (ah := none) (rs := [some (.no), some (.no), some (.no), some (.el (.agg [.int .i64 e_5_3.fOp, .int .i64 e_5_3.fN, .sl (List.map I e_5_3.fType), .sl (List.map GTerm_S e_5_3.fKids)])), some (.no), some (.no), some (.call (.int .i64 r_5_6) [] 1), some (.no)]) (kt := [1, 2, 5]) (ko := [1]) (T' := [(1, .int .i64 r_5_6), (2, .ra 1 0), (5, .int .i64 k_5)]) (O' := [(1, .box [.int .i64 t0.fOp, .int .i64 t0.fN, .sl (List.map I t0.fType), .sl (List.map GTerm_S t0.fKids)])]) (by kernel_rfl) (And.intro (idx_sl (enc := GTerm_S) (x := .agg [.int .i64 e_5_3.fOp, .int .i64 e_5_3.fN, .sl (List.map I e_5_3.fType), .sl (List.map GTerm_S e_5_3.fKids)]) hi_5_3 (eq_GTerm_S e_5_3)) (And.intro (spec_l2Left_ih _ _ hr_5_6) (And.intro bod_84 (And.intro (Or.inl rfl : ([] : List Nat) = [] ∨ noSh (.int .i64 r_5_6) = true) trivial)))) (by kernel_rfl) (by kernel_rfl) ?_
        refine blockQ_norm ?_
        refine seqQ_norm ?_
        refine Wp.reg tiok mix hc (by kernel_rfl) (ah := none) (rs := [some (.no), some (.no), some (.no)]) (kt := [1, 2, 5]) (ko := [1]) (T' := [(1, .int .i64 r_5_6), (2, .ra 1 0), (5, .int .i64 (wr (k_5 + 1)))]) (O' := [(1, .box [.int .i64 t0.fOp, .int .i64 t0.fN, .sl (List.map I t0.fType), .sl (List.map GTerm_S t0.fKids)])]) (by kernel_rfl) trivial (by kernel_rfl) (by kernel_rfl) ?_
        refine loopQ_norm ?_
        exact (spec_l2Left_l0_ih _ _ h c hc)
      · refine Wp.condF (b := v_6) (by kernel_rfl) (by kernel_rfl) hb_8 ?_
        refine Wp.exitN (i := 0) (by kernel_rfl) ?_
        refine seqQ_exit ?_
        refine loopQ_exit ?_
        obtain rfl := Option.some.inj h
        exact Into.view (fun a w hv => SRx.renL [] hv (by kernel_rfl) (by kernel_rfl) (by kernel_rfl))
theorem spec_l2Left_s : ∀ p r, spec_l2Left p = some r → M_spec_l2Left p r := spec_l2Left_all.1
theorem spec_l2Left_l0_s : ∀ p r, spec_l2Left_l0 p = some r → M_spec_l2Left_l0 p r := spec_l2Left_all.2
def spec_l1In (p : Int × Int × Int) : Option (Bool) :=
  match p with
  | (n0, low1, high2) =>
    (
      if (decide (n0 ≥ low1)) = true then
        some ((decide (n0 ≤ high2)))
      else
        some (false)
    ) >>= fun v_1 =>
    some v_1
def M_spec_l1In (p : Int × Int × Int) (r : Bool) : Prop :=
  match p with
  | (n0, low1, high2) => FnSound Try.prog 57 [.int .i64 n0, .int .i64 low1, .int .i64 high2] (.bool r) []
theorem spec_l1In_s : ∀ p r, spec_l1In p = some r → M_spec_l1In p r := by
  rintro ⟨n0, low1, high2⟩ r h
  unfold spec_l1In at h
  show FnSound Try.prog 57 [.int .i64 n0, .int .i64 low1, .int .i64 high2] (.bool r) []
  refine FnSound.body0 tiok (fn := Try.f57) (code := B57) (by kernel_rfl) (by kernel_rfl) (by kernel_rfl) (by kernel_rfl) (nt := 15) (by kernel_rfl) (by kernel_rfl) (T := [(0, .int .i64 n0), (1, .int .i64 low1), (2, .int .i64 high2)]) (O := []) (by kernel_rfl) (by kernel_rfl) (fun c hc => ?_)
  refine Wp.seqN (by kernel_rfl) ?_
  refine Wp.reg tiok mix hc (by kernel_rfl) (ah := none) (rs := [some (.no)]) (kt := [0, 1, 2]) (ko := []) (T' := [(0, .int .i64 n0), (1, .int .i64 low1), (2, .int .i64 high2)]) (O' := []) (by kernel_rfl) trivial (by kernel_rfl) (by kernel_rfl) ?_
  refine seqQ_norm ?_
  refine Wp.seqN (by kernel_rfl) ?_
  obtain ⟨v_1, hj_2, h⟩ := bsome h
  refine Wp.into (x := .normal) (mkS [(6, .bool v_1)] []) ?_ ?_
  · replace h := hj_2
    rcases itesome h with ⟨hb_1_0, h⟩ | ⟨hb_1_0, h⟩
    · refine Wp.reg tiok mix hc (by kernel_rfl) (ah := none) (rs := [some (.no), some (.no), some (.no), some (.no), some (.no), some (.no), some (.no), some (.cond true), some (.no)]) (kt := [6]) (ko := []) (T' := [(6, .bool (decide (n0 ≤ high2)))]) (O' := []) (by kernel_rfl) (And.intro hb_1_0 (And.intro hb_1_0 (And.intro hb_1_0 (And.intro hb_1_0 trivial)))) (by kernel_rfl) (by kernel_rfl) ?_
      obtain rfl := Option.some.inj h
      exact Into.mk
    · refine Wp.reg tiok mix hc (by kernel_rfl) (ah := none) (rs := [some (.no), some (.no), some (.no), some (.no), none, none, none, some (.cond false), some (.no)]) (kt := [6]) (ko := []) (T' := [(6, .bool false)]) (O' := []) (by kernel_rfl) (And.intro (neT hb_1_0 : (decide (n0 ≥ low1)) ≠ true) (And.intro (neT hb_1_0 : (decide (n0 ≥ low1)) ≠ true) (And.intro (neT hb_1_0 : (decide (n0 ≥ low1)) ≠ true) (And.intro hb_1_0 trivial)))) (by kernel_rfl) (by kernel_rfl) ?_
      obtain rfl := Option.some.inj h
      exact Into.mk
  · clear hj_2
    refine seqQ_norm ?_
    refine Wp.retN (by kernel_rfl) ?_
    obtain rfl := Option.some.inj h
    exact RetQ.ret (fl := [true]) (by kernel_rfl)
def spec_l2Many (op0 : Int) : Option (Int) :=
    (spec_l1In (op0, 0, 12)) >>= fun r_1_1 =>
    if r_1_1 = true then
      (idx [0, 0, 2, 3, 2, 2, 1, 1, 3, 1, 2, 1, 2] op0) >>= fun e_3_2 =>
      some e_3_2
    else
      some (-1)
def M_spec_l2Many (op0 : Int) (r : Int) : Prop :=
  FnSound Try.prog 163 [.int .i64 op0] (.int .i64 r) []
theorem spec_l2Many_s : ∀ p r, spec_l2Many p = some r → M_spec_l2Many p r := by
  rintro op0 r h
  unfold spec_l2Many at h
  show FnSound Try.prog 163 [.int .i64 op0] (.int .i64 r) []
  refine FnSound.body0 tiok (fn := Try.f163) (code := B163) (by kernel_rfl) (by kernel_rfl) (by kernel_rfl) (by kernel_rfl) (nt := 10) (by kernel_rfl) (by kernel_rfl) (T := [(0, .int .i64 op0)]) (O := []) (by kernel_rfl) (by kernel_rfl) (fun c hc => ?_)
  refine Wp.seqN (by kernel_rfl) ?_
  refine Wp.reg tiok mix hc (by kernel_rfl) (ah := none) (rs := [some (.no)]) (kt := [0]) (ko := []) (T' := [(0, .int .i64 op0)]) (O' := []) (by kernel_rfl) trivial (by kernel_rfl) (by kernel_rfl) ?_
  refine seqQ_norm ?_
  refine Wp.seqN (by kernel_rfl) ?_
  refine Wp.seqN (by kernel_rfl) ?_
  obtain ⟨r_1_1, hr_1_1, h⟩ := bsome h
  refine Wp.reg tiok mix hc (by kernel_rfl) (ah := none) (rs := [some (.no), some (.call (.bool r_1_1) [] 1), some (.no)]) (kt := [0, 5]) (ko := []) (T' := [(0, .int .i64 op0), (5, .bool (!r_1_1))]) (O' := []) (by kernel_rfl) (And.intro (spec_l1In_s _ _ hr_1_1) (And.intro bod_57 (And.intro (Or.inl rfl : ([] : List Nat) = [] ∨ noSh (.bool r_1_1) = true) trivial))) (by kernel_rfl) (by kernel_rfl) ?_
  refine seqQ_norm ?_
  rcases itesome h with ⟨hb_1, h⟩ | ⟨hb_1, h⟩
  · refine Wp.condF (b := (!r_1_1)) (by kernel_rfl) (by kernel_rfl) (nF hb_1) ?_
    refine Wp.skipN (by kernel_rfl) ?_
    refine seqQ_norm ?_
    refine Wp.seqN (by kernel_rfl) ?_
    obtain ⟨e_3_2, hi_3_2, h⟩ := bsome h
    refine Wp.reg tiok mix hc (by kernel_rfl) (ah := none) (rs := [some (.mk 1 true), some (.no), some (.no), some (.el (.int .i64 e_3_2)), some (.no)]) (kt := [2]) (ko := []) (T' := [(2, .int .i64 e_3_2)]) (O' := []) (by kernel_rfl) (And.intro (idx_own (enc := I) hi_3_2) (And.intro (idx_sl (enc := I) (x := .int .i64 e_3_2) hi_3_2 (eq_I e_3_2)).2 trivial)) (by kernel_rfl) (by kernel_rfl) ?_
    refine seqQ_norm ?_
    refine Wp.retN (by kernel_rfl) ?_
    obtain rfl := Option.some.inj h
    exact RetQ.ret (fl := [true]) (by kernel_rfl)
  · refine Wp.condT (b := (!r_1_1)) (by kernel_rfl) (by kernel_rfl) (nT hb_1) ?_
    refine Wp.seqN (by kernel_rfl) ?_
    refine Wp.reg tiok mix hc (by kernel_rfl) (ah := none) (rs := [some (.no)]) (kt := [2]) (ko := []) (T' := [(2, .int .i64 (-1))]) (O' := []) (by kernel_rfl) trivial (by kernel_rfl) (by kernel_rfl) ?_
    refine seqQ_norm ?_
    refine Wp.retN (by kernel_rfl) ?_
    refine seqQ_ret ?_
    obtain rfl := Option.some.inj h
    exact RetQ.ret (fl := [true]) (by kernel_rfl)
def spec_l2Has (op0 : Int) : Option (Bool) :=
    (
      if (op0 == 5) = true then
        some (true)
      else
        if (op0 == 8) = true then
          some (true)
        else
          if (op0 == 9) = true then
            some (true)
          else
            if (op0 == 11) = true then
              some (true)
            else
              some ((op0 == 12))
    ) >>= fun v_1 =>
    some v_1
def M_spec_l2Has (op0 : Int) (r : Bool) : Prop :=
  FnSound Try.prog 108 [.int .i64 op0] (.bool r) []
theorem spec_l2Has_s : ∀ p r, spec_l2Has p = some r → M_spec_l2Has p r := by
  rintro op0 r h
  unfold spec_l2Has at h
  show FnSound Try.prog 108 [.int .i64 op0] (.bool r) []
  refine FnSound.body0 tiok (fn := Try.f108) (code := B108) (by kernel_rfl) (by kernel_rfl) (by kernel_rfl) (by kernel_rfl) (nt := 21) (by kernel_rfl) (by kernel_rfl) (T := [(0, .int .i64 op0)]) (O := []) (by kernel_rfl) (by kernel_rfl) (fun c hc => ?_)
  refine Wp.seqN (by kernel_rfl) ?_
  refine Wp.reg tiok mix hc (by kernel_rfl) (ah := none) (rs := [some (.no)]) (kt := [0]) (ko := []) (T' := [(0, .int .i64 op0)]) (O' := []) (by kernel_rfl) trivial (by kernel_rfl) (by kernel_rfl) ?_
  refine seqQ_norm ?_
  refine Wp.seqN (by kernel_rfl) ?_
  obtain ⟨v_1, hj_2, h⟩ := bsome h
  refine Wp.into (x := .normal) (mkS [(2, .bool v_1)] []) ?_ ?_
  · replace h := hj_2
    rcases itesome h with ⟨hb_1_0, h⟩ | ⟨hb_1_0, h⟩
    · refine Wp.reg tiok mix hc (by kernel_rfl) (ah := none) (rs := [some (.no), some (.no), some (.no), none, none, some (.cond true), some (.no), none, none, some (.cond true), some (.no), none, none, some (.cond true), some (.no), none, none, some (.cond true), some (.no)]) (kt := [2]) (ko := []) (T' := [(2, .bool true)]) (O' := []) (by kernel_rfl) (And.intro (neF hb_1_0 : (op0 == 5) ≠ false) (And.intro (neF hb_1_0 : (op0 == 5) ≠ false) (And.intro hb_1_0 (And.intro (neF (rfl : true = true) : true ≠ false) (And.intro (neF (rfl : true = true) : true ≠ false) (And.intro (rfl : true = true) (And.intro (neF (rfl : true = true) : true ≠ false) (And.intro (neF (rfl : true = true) : true ≠ false) (And.intro (rfl : true = true) (And.intro (neF (rfl : true = true) : true ≠ false) (And.intro (neF (rfl : true = true) : true ≠ false) (And.intro (rfl : true = true) trivial)))))))))))) (by kernel_rfl) (by kernel_rfl) ?_
      obtain rfl := Option.some.inj h
      exact Into.mk
    · rcases itesome h with ⟨hb_1_1, h⟩ | ⟨hb_1_1, h⟩
      · refine Wp.reg tiok mix hc (by kernel_rfl) (ah := none) (rs := [some (.no), some (.no), some (.no), some (.no), some (.no), some (.cond false), some (.no), none, none, some (.cond true), some (.no), none, none, some (.cond true), some (.no), none, none, some (.cond true), some (.no)]) (kt := [2]) (ko := []) (T' := [(2, .bool true)]) (O' := []) (by kernel_rfl) (And.intro hb_1_0 (And.intro hb_1_0 (And.intro hb_1_0 (And.intro (neF hb_1_1 : (op0 == 8) ≠ false) (And.intro (neF hb_1_1 : (op0 == 8) ≠ false) (And.intro hb_1_1 (And.intro (neF (rfl : true = true) : true ≠ false) (And.intro (neF (rfl : true = true) : true ≠ false) (And.intro (rfl : true = true) (And.intro (neF (rfl : true = true) : true ≠ false) (And.intro (neF (rfl : true = true) : true ≠ false) (And.intro (rfl : true = true) trivial)))))))))))) (by kernel_rfl) (by kernel_rfl) ?_
        obtain rfl := Option.some.inj h
        exact Into.mk
      · rcases itesome h with ⟨hb_1_2, h⟩ | ⟨hb_1_2, h⟩
        · refine Wp.reg tiok mix hc (by kernel_rfl) (ah := none) (rs := [some (.no), some (.no), some (.no), some (.no), some (.no), some (.cond false), some (.no), some (.no), some (.no), some (.cond false), some (.no), none, none, some (.cond true), some (.no), none, none, some (.cond true), some (.no)]) (kt := [2]) (ko := []) (T' := [(2, .bool true)]) (O' := []) (by kernel_rfl) (And.intro hb_1_0 (And.intro hb_1_0 (And.intro hb_1_0 (And.intro hb_1_1 (And.intro hb_1_1 (And.intro hb_1_1 (And.intro (neF hb_1_2 : (op0 == 9) ≠ false) (And.intro (neF hb_1_2 : (op0 == 9) ≠ false) (And.intro hb_1_2 (And.intro (neF (rfl : true = true) : true ≠ false) (And.intro (neF (rfl : true = true) : true ≠ false) (And.intro (rfl : true = true) trivial)))))))))))) (by kernel_rfl) (by kernel_rfl) ?_
          obtain rfl := Option.some.inj h
          exact Into.mk
        · rcases itesome h with ⟨hb_1_3, h⟩ | ⟨hb_1_3, h⟩
          · refine Wp.reg tiok mix hc (by kernel_rfl) (ah := none) (rs := [some (.no), some (.no), some (.no), some (.no), some (.no), some (.cond false), some (.no), some (.no), some (.no), some (.cond false), some (.no), some (.no), some (.no), some (.cond false), some (.no), none, none, some (.cond true), some (.no)]) (kt := [2]) (ko := []) (T' := [(2, .bool true)]) (O' := []) (by kernel_rfl) (And.intro hb_1_0 (And.intro hb_1_0 (And.intro hb_1_0 (And.intro hb_1_1 (And.intro hb_1_1 (And.intro hb_1_1 (And.intro hb_1_2 (And.intro hb_1_2 (And.intro hb_1_2 (And.intro (neF hb_1_3 : (op0 == 11) ≠ false) (And.intro (neF hb_1_3 : (op0 == 11) ≠ false) (And.intro hb_1_3 trivial)))))))))))) (by kernel_rfl) (by kernel_rfl) ?_
            obtain rfl := Option.some.inj h
            exact Into.mk
          · refine Wp.reg tiok mix hc (by kernel_rfl) (ah := none) (rs := [some (.no), some (.no), some (.no), some (.no), some (.no), some (.cond false), some (.no), some (.no), some (.no), some (.cond false), some (.no), some (.no), some (.no), some (.cond false), some (.no), some (.no), some (.no), some (.cond false), some (.no)]) (kt := [2]) (ko := []) (T' := [(2, .bool (op0 == 12))]) (O' := []) (by kernel_rfl) (And.intro hb_1_0 (And.intro hb_1_0 (And.intro hb_1_0 (And.intro hb_1_1 (And.intro hb_1_1 (And.intro hb_1_1 (And.intro hb_1_2 (And.intro hb_1_2 (And.intro hb_1_2 (And.intro hb_1_3 (And.intro hb_1_3 (And.intro hb_1_3 trivial)))))))))))) (by kernel_rfl) (by kernel_rfl) ?_
            obtain rfl := Option.some.inj h
            exact Into.mk
  · clear hj_2
    refine seqQ_norm ?_
    refine Wp.retN (by kernel_rfl) ?_
    obtain rfl := Option.some.inj h
    exact RetQ.ret (fl := [true]) (by kernel_rfl)
def spec_l2Typed (op0 : Int) : Option (Bool) :=
    (
      if (op0 == 6) = true then
        some (true)
      else
        if (op0 == 7) = true then
          some (true)
        else
          some ((op0 == 9))
    ) >>= fun v_1 =>
    some v_1
def M_spec_l2Typed (op0 : Int) (r : Bool) : Prop :=
  FnSound Try.prog 164 [.int .i64 op0] (.bool r) []
theorem spec_l2Typed_s : ∀ p r, spec_l2Typed p = some r → M_spec_l2Typed p r := by
  rintro op0 r h
  unfold spec_l2Typed at h
  show FnSound Try.prog 164 [.int .i64 op0] (.bool r) []
  refine FnSound.body0 tiok (fn := Try.f164) (code := B164) (by kernel_rfl) (by kernel_rfl) (by kernel_rfl) (by kernel_rfl) (nt := 13) (by kernel_rfl) (by kernel_rfl) (T := [(0, .int .i64 op0)]) (O := []) (by kernel_rfl) (by kernel_rfl) (fun c hc => ?_)
  refine Wp.seqN (by kernel_rfl) ?_
  refine Wp.reg tiok mix hc (by kernel_rfl) (ah := none) (rs := [some (.no)]) (kt := [0]) (ko := []) (T' := [(0, .int .i64 op0)]) (O' := []) (by kernel_rfl) trivial (by kernel_rfl) (by kernel_rfl) ?_
  refine seqQ_norm ?_
  refine Wp.seqN (by kernel_rfl) ?_
  obtain ⟨v_1, hj_2, h⟩ := bsome h
  refine Wp.into (x := .normal) (mkS [(2, .bool v_1)] []) ?_ ?_
  · replace h := hj_2
    rcases itesome h with ⟨hb_1_0, h⟩ | ⟨hb_1_0, h⟩
    · refine Wp.reg tiok mix hc (by kernel_rfl) (ah := none) (rs := [some (.no), some (.no), some (.no), none, none, some (.cond true), some (.no), none, none, some (.cond true), some (.no)]) (kt := [2]) (ko := []) (T' := [(2, .bool true)]) (O' := []) (by kernel_rfl) (And.intro (neF hb_1_0 : (op0 == 6) ≠ false) (And.intro (neF hb_1_0 : (op0 == 6) ≠ false) (And.intro hb_1_0 (And.intro (neF (rfl : true = true) : true ≠ false) (And.intro (neF (rfl : true = true) : true ≠ false) (And.intro (rfl : true = true) trivial)))))) (by kernel_rfl) (by kernel_rfl) ?_
      obtain rfl := Option.some.inj h
      exact Into.mk
    · rcases itesome h with ⟨hb_1_1, h⟩ | ⟨hb_1_1, h⟩
      · refine Wp.reg tiok mix hc (by kernel_rfl) (ah := none) (rs := [some (.no), some (.no), some (.no), some (.no), some (.no), some (.cond false), some (.no), none, none, some (.cond true), some (.no)]) (kt := [2]) (ko := []) (T' := [(2, .bool true)]) (O' := []) (by kernel_rfl) (And.intro hb_1_0 (And.intro hb_1_0 (And.intro hb_1_0 (And.intro (neF hb_1_1 : (op0 == 7) ≠ false) (And.intro (neF hb_1_1 : (op0 == 7) ≠ false) (And.intro hb_1_1 trivial)))))) (by kernel_rfl) (by kernel_rfl) ?_
        obtain rfl := Option.some.inj h
        exact Into.mk
      · refine Wp.reg tiok mix hc (by kernel_rfl) (ah := none) (rs := [some (.no), some (.no), some (.no), some (.no), some (.no), some (.cond false), some (.no), some (.no), some (.no), some (.cond false), some (.no)]) (kt := [2]) (ko := []) (T' := [(2, .bool (op0 == 9))]) (O' := []) (by kernel_rfl) (And.intro hb_1_0 (And.intro hb_1_0 (And.intro hb_1_0 (And.intro hb_1_1 (And.intro hb_1_1 (And.intro hb_1_1 trivial)))))) (by kernel_rfl) (by kernel_rfl) ?_
        obtain rfl := Option.some.inj h
        exact Into.mk
  · clear hj_2
    refine seqQ_norm ?_
    refine Wp.retN (by kernel_rfl) ?_
    obtain rfl := Option.some.inj h
    exact RetQ.ret (fl := [true]) (by kernel_rfl)
def spec_l2Arrow (c0 : Int) : Option (Bool) :=
    (
      (spec_l1In (c0, 3, 18)) >>= fun r_1_1 =>
      if r_1_1 = true then
        some (true)
      else
        some ((c0 == 35))
    ) >>= fun v_1 =>
    some v_1
def M_spec_l2Arrow (c0 : Int) (r : Bool) : Prop :=
  FnSound Try.prog 158 [.int .i64 c0] (.bool r) []
theorem spec_l2Arrow_s : ∀ p r, spec_l2Arrow p = some r → M_spec_l2Arrow p r := by
  rintro c0 r h
  unfold spec_l2Arrow at h
  show FnSound Try.prog 158 [.int .i64 c0] (.bool r) []
  refine FnSound.body0 tiok (fn := Try.f158) (code := B158) (by kernel_rfl) (by kernel_rfl) (by kernel_rfl) (by kernel_rfl) (nt := 9) (by kernel_rfl) (by kernel_rfl) (T := [(0, .int .i64 c0)]) (O := []) (by kernel_rfl) (by kernel_rfl) (fun c hc => ?_)
  refine Wp.seqN (by kernel_rfl) ?_
  refine Wp.reg tiok mix hc (by kernel_rfl) (ah := none) (rs := [some (.no)]) (kt := [0]) (ko := []) (T' := [(0, .int .i64 c0)]) (O' := []) (by kernel_rfl) trivial (by kernel_rfl) (by kernel_rfl) ?_
  refine seqQ_norm ?_
  refine Wp.seqN (by kernel_rfl) ?_
  obtain ⟨v_1, hj_2, h⟩ := bsome h
  refine Wp.into (x := .normal) (mkS [(2, .bool v_1)] []) ?_ ?_
  · replace h := hj_2
    obtain ⟨r_1_1, hr_1_1, h⟩ := bsome h
    rcases itesome h with ⟨hb_1_0, h⟩ | ⟨hb_1_0, h⟩
    · refine Wp.reg tiok mix hc (by kernel_rfl) (ah := none) (rs := [some (.no), some (.call (.bool r_1_1) [] 1), some (.no), none, none, some (.cond true), some (.no)]) (kt := [2]) (ko := []) (T' := [(2, .bool true)]) (O' := []) (by kernel_rfl) (And.intro (spec_l1In_s _ _ hr_1_1) (And.intro bod_57 (And.intro (Or.inl rfl : ([] : List Nat) = [] ∨ noSh (.bool r_1_1) = true) (And.intro (neF hb_1_0 : r_1_1 ≠ false) (And.intro (neF hb_1_0 : r_1_1 ≠ false) (And.intro hb_1_0 trivial)))))) (by kernel_rfl) (by kernel_rfl) ?_
      obtain rfl := Option.some.inj h
      exact Into.mk
    · refine Wp.reg tiok mix hc (by kernel_rfl) (ah := none) (rs := [some (.no), some (.call (.bool r_1_1) [] 1), some (.no), some (.no), some (.no), some (.cond false), some (.no)]) (kt := [2]) (ko := []) (T' := [(2, .bool (c0 == 35))]) (O' := []) (by kernel_rfl) (And.intro (spec_l1In_s _ _ hr_1_1) (And.intro bod_57 (And.intro (Or.inl rfl : ([] : List Nat) = [] ∨ noSh (.bool r_1_1) = true) (And.intro hb_1_0 (And.intro hb_1_0 (And.intro hb_1_0 trivial)))))) (by kernel_rfl) (by kernel_rfl) ?_
      obtain rfl := Option.some.inj h
      exact Into.mk
  · clear hj_2
    refine seqQ_norm ?_
    refine Wp.retN (by kernel_rfl) ?_
    obtain rfl := Option.some.inj h
    exact RetQ.ret (fl := [true]) (by kernel_rfl)
def spec_l2Box (c0 : Int) : Option (Bool) :=
    (
      (spec_l1In (c0, 19, 34)) >>= fun r_1_1 =>
      if r_1_1 = true then
        some (true)
      else
        some ((c0 == 36))
    ) >>= fun v_1 =>
    some v_1
def M_spec_l2Box (c0 : Int) (r : Bool) : Prop :=
  FnSound Try.prog 100 [.int .i64 c0] (.bool r) []
theorem spec_l2Box_s : ∀ p r, spec_l2Box p = some r → M_spec_l2Box p r := by
  rintro c0 r h
  unfold spec_l2Box at h
  show FnSound Try.prog 100 [.int .i64 c0] (.bool r) []
  refine FnSound.body0 tiok (fn := Try.f100) (code := B100) (by kernel_rfl) (by kernel_rfl) (by kernel_rfl) (by kernel_rfl) (nt := 9) (by kernel_rfl) (by kernel_rfl) (T := [(0, .int .i64 c0)]) (O := []) (by kernel_rfl) (by kernel_rfl) (fun c hc => ?_)
  refine Wp.seqN (by kernel_rfl) ?_
  refine Wp.reg tiok mix hc (by kernel_rfl) (ah := none) (rs := [some (.no)]) (kt := [0]) (ko := []) (T' := [(0, .int .i64 c0)]) (O' := []) (by kernel_rfl) trivial (by kernel_rfl) (by kernel_rfl) ?_
  refine seqQ_norm ?_
  refine Wp.seqN (by kernel_rfl) ?_
  obtain ⟨v_1, hj_2, h⟩ := bsome h
  refine Wp.into (x := .normal) (mkS [(2, .bool v_1)] []) ?_ ?_
  · replace h := hj_2
    obtain ⟨r_1_1, hr_1_1, h⟩ := bsome h
    rcases itesome h with ⟨hb_1_0, h⟩ | ⟨hb_1_0, h⟩
    · refine Wp.reg tiok mix hc (by kernel_rfl) (ah := none) (rs := [some (.no), some (.call (.bool r_1_1) [] 1), some (.no), none, none, some (.cond true), some (.no)]) (kt := [2]) (ko := []) (T' := [(2, .bool true)]) (O' := []) (by kernel_rfl) (And.intro (spec_l1In_s _ _ hr_1_1) (And.intro bod_57 (And.intro (Or.inl rfl : ([] : List Nat) = [] ∨ noSh (.bool r_1_1) = true) (And.intro (neF hb_1_0 : r_1_1 ≠ false) (And.intro (neF hb_1_0 : r_1_1 ≠ false) (And.intro hb_1_0 trivial)))))) (by kernel_rfl) (by kernel_rfl) ?_
      obtain rfl := Option.some.inj h
      exact Into.mk
    · refine Wp.reg tiok mix hc (by kernel_rfl) (ah := none) (rs := [some (.no), some (.call (.bool r_1_1) [] 1), some (.no), some (.no), some (.no), some (.cond false), some (.no)]) (kt := [2]) (ko := []) (T' := [(2, .bool (c0 == 36))]) (O' := []) (by kernel_rfl) (And.intro (spec_l1In_s _ _ hr_1_1) (And.intro bod_57 (And.intro (Or.inl rfl : ([] : List Nat) = [] ∨ noSh (.bool r_1_1) = true) (And.intro hb_1_0 (And.intro hb_1_0 (And.intro hb_1_0 trivial)))))) (by kernel_rfl) (by kernel_rfl) ?_
      obtain rfl := Option.some.inj h
      exact Into.mk
  · clear hj_2
    refine seqQ_norm ?_
    refine Wp.retN (by kernel_rfl) ?_
    obtain rfl := Option.some.inj h
    exact RetQ.ret (fl := [true]) (by kernel_rfl)
def spec_l2Kids (c0 : Int) : Option (Int) :=
    if (c0 == 0) = true then
      some 0
    else
      (
        if (c0 == 1) = true then
          some (true)
        else
          if (c0 == 2) = true then
            some (true)
          else
            (spec_l2Arrow c0) >>= fun r_3_8 =>
            some (r_3_8)
      ) >>= fun v_2 =>
      if v_2 = true then
        some 2
      else
        (spec_l2Box c0) >>= fun r_5_1 =>
        if r_5_1 = true then
          some 1
        else
          some (-1)
def M_spec_l2Kids (c0 : Int) (r : Int) : Prop :=
  FnSound Try.prog 136 [.int .i64 c0] (.int .i64 r) []
theorem spec_l2Kids_s : ∀ p r, spec_l2Kids p = some r → M_spec_l2Kids p r := by
  rintro c0 r h
  unfold spec_l2Kids at h
  show FnSound Try.prog 136 [.int .i64 c0] (.int .i64 r) []
  refine FnSound.body0 tiok (fn := Try.f136) (code := B136) (by kernel_rfl) (by kernel_rfl) (by kernel_rfl) (by kernel_rfl) (nt := 20) (by kernel_rfl) (by kernel_rfl) (T := [(0, .int .i64 c0)]) (O := []) (by kernel_rfl) (by kernel_rfl) (fun c hc => ?_)
  refine Wp.seqN (by kernel_rfl) ?_
  refine Wp.reg tiok mix hc (by kernel_rfl) (ah := none) (rs := [some (.no)]) (kt := [0]) (ko := []) (T' := [(0, .int .i64 c0)]) (O' := []) (by kernel_rfl) trivial (by kernel_rfl) (by kernel_rfl) ?_
  refine seqQ_norm ?_
  refine Wp.seqN (by kernel_rfl) ?_
  refine Wp.blockN (i := 0) (by kernel_rfl) ?_
  refine Wp.seqN (by kernel_rfl) ?_
  refine Wp.reg tiok mix hc (by kernel_rfl) (ah := none) (rs := [some (.no), some (.no), some (.no)]) (kt := [0, 3]) (ko := []) (T' := [(0, .int .i64 c0), (3, .bool (c0 == 0))]) (O' := []) (by kernel_rfl) trivial (by kernel_rfl) (by kernel_rfl) ?_
  refine seqQ_norm ?_
  rcases itesome h with ⟨hb_1, h⟩ | ⟨hb_1, h⟩
  · refine Wp.condT (b := (c0 == 0)) (by kernel_rfl) (by kernel_rfl) hb_1 ?_
    refine Wp.seqN (by kernel_rfl) ?_
    refine Wp.reg tiok mix hc (by kernel_rfl) (ah := none) (rs := [some (.no)]) (kt := [2]) (ko := []) (T' := [(2, .int .i64 0)]) (O' := []) (by kernel_rfl) trivial (by kernel_rfl) (by kernel_rfl) ?_
    refine seqQ_norm ?_
    refine Wp.retN (by kernel_rfl) ?_
    refine blockQ_ret ?_
    refine seqQ_ret ?_
    obtain rfl := Option.some.inj h
    exact RetQ.ret (fl := [true]) (by kernel_rfl)
  · refine Wp.condF (b := (c0 == 0)) (by kernel_rfl) (by kernel_rfl) hb_1 ?_
    refine Wp.seqN (by kernel_rfl) ?_
    obtain ⟨v_2, hj_3, h⟩ := bsome h
    refine Wp.into (x := .normal) (mkS [(0, .int .i64 c0), (6, .bool v_2)] []) ?_ ?_
    · replace h := hj_3
      rcases itesome h with ⟨hb_3_0, h⟩ | ⟨hb_3_0, h⟩
      · refine Wp.reg tiok mix hc (by kernel_rfl) (ah := none) (rs := [some (.no), some (.no), some (.no), none, none, some (.cond true), some (.no), none, none, some (.cond true), some (.no)]) (kt := [0, 6]) (ko := []) (T' := [(0, .int .i64 c0), (6, .bool true)]) (O' := []) (by kernel_rfl) (And.intro (neF hb_3_0 : (c0 == 1) ≠ false) (And.intro (neF hb_3_0 : (c0 == 1) ≠ false) (And.intro hb_3_0 (And.intro (neF (rfl : true = true) : true ≠ false) (And.intro (neF (rfl : true = true) : true ≠ false) (And.intro (rfl : true = true) trivial)))))) (by kernel_rfl) (by kernel_rfl) ?_
        obtain rfl := Option.some.inj h
        exact Into.mk
      · rcases itesome h with ⟨hb_3_1, h⟩ | ⟨hb_3_1, h⟩
        · refine Wp.reg tiok mix hc (by kernel_rfl) (ah := none) (rs := [some (.no), some (.no), some (.no), some (.no), some (.no), some (.cond false), some (.no), none, none, some (.cond true), some (.no)]) (kt := [0, 6]) (ko := []) (T' := [(0, .int .i64 c0), (6, .bool true)]) (O' := []) (by kernel_rfl) (And.intro hb_3_0 (And.intro hb_3_0 (And.intro hb_3_0 (And.intro (neF hb_3_1 : (c0 == 2) ≠ false) (And.intro (neF hb_3_1 : (c0 == 2) ≠ false) (And.intro hb_3_1 trivial)))))) (by kernel_rfl) (by kernel_rfl) ?_
          obtain rfl := Option.some.inj h
          exact Into.mk
        · obtain ⟨r_3_8, hr_3_8, h⟩ := bsome h
          refine Wp.reg tiok mix hc (by kernel_rfl) (ah := none) (rs := [some (.no), some (.no), some (.no), some (.no), some (.no), some (.cond false), some (.no), some (.no), some (.call (.bool r_3_8) [] 1), some (.cond false), some (.no)]) (kt := [0, 6]) (ko := []) (T' := [(0, .int .i64 c0), (6, .bool r_3_8)]) (O' := []) (by kernel_rfl) (And.intro hb_3_0 (And.intro hb_3_0 (And.intro hb_3_0 (And.intro hb_3_1 (And.intro hb_3_1 (And.intro (spec_l2Arrow_s _ _ hr_3_8) (And.intro bod_158 (And.intro (Or.inl rfl : ([] : List Nat) = [] ∨ noSh (.bool r_3_8) = true) (And.intro hb_3_1 trivial))))))))) (by kernel_rfl) (by kernel_rfl) ?_
          obtain rfl := Option.some.inj h
          exact Into.mk
    · clear hj_3
      refine seqQ_norm ?_
      rcases itesome h with ⟨hb_4, h⟩ | ⟨hb_4, h⟩
      · refine Wp.condT (b := v_2) (by kernel_rfl) (by kernel_rfl) hb_4 ?_
        refine Wp.seqN (by kernel_rfl) ?_
        refine Wp.reg tiok mix hc (by kernel_rfl) (ah := none) (rs := [some (.no)]) (kt := [2]) (ko := []) (T' := [(2, .int .i64 2)]) (O' := []) (by kernel_rfl) trivial (by kernel_rfl) (by kernel_rfl) ?_
        refine seqQ_norm ?_
        refine Wp.retN (by kernel_rfl) ?_
        refine blockQ_ret ?_
        refine seqQ_ret ?_
        obtain rfl := Option.some.inj h
        exact RetQ.ret (fl := [true]) (by kernel_rfl)
      · refine Wp.condF (b := v_2) (by kernel_rfl) (by kernel_rfl) hb_4 ?_
        refine Wp.seqN (by kernel_rfl) ?_
        obtain ⟨r_5_1, hr_5_1, h⟩ := bsome h
        refine Wp.reg tiok mix hc (by kernel_rfl) (ah := none) (rs := [some (.no), some (.call (.bool r_5_1) [] 1), some (.no)]) (kt := [17]) (ko := []) (T' := [(17, .bool r_5_1)]) (O' := []) (by kernel_rfl) (And.intro (spec_l2Box_s _ _ hr_5_1) (And.intro bod_100 (And.intro (Or.inl rfl : ([] : List Nat) = [] ∨ noSh (.bool r_5_1) = true) trivial))) (by kernel_rfl) (by kernel_rfl) ?_
        refine seqQ_norm ?_
        rcases itesome h with ⟨hb_5, h⟩ | ⟨hb_5, h⟩
        · refine Wp.condT (b := r_5_1) (by kernel_rfl) (by kernel_rfl) hb_5 ?_
          refine Wp.seqN (by kernel_rfl) ?_
          refine Wp.reg tiok mix hc (by kernel_rfl) (ah := none) (rs := [some (.no)]) (kt := [2]) (ko := []) (T' := [(2, .int .i64 1)]) (O' := []) (by kernel_rfl) trivial (by kernel_rfl) (by kernel_rfl) ?_
          refine seqQ_norm ?_
          refine Wp.retN (by kernel_rfl) ?_
          refine blockQ_ret ?_
          refine seqQ_ret ?_
          obtain rfl := Option.some.inj h
          exact RetQ.ret (fl := [true]) (by kernel_rfl)
        · refine Wp.condF (b := r_5_1) (by kernel_rfl) (by kernel_rfl) hb_5 ?_
          refine Wp.skipN (by kernel_rfl) ?_
          refine blockQ_norm ?_
          refine seqQ_norm ?_
          refine Wp.seqN (by kernel_rfl) ?_
          refine Wp.reg tiok mix hc (by kernel_rfl) (ah := none) (rs := [some (.no)]) (kt := [2]) (ko := []) (T' := [(2, .int .i64 (-1))]) (O' := []) (by kernel_rfl) trivial (by kernel_rfl) (by kernel_rfl) ?_
          refine seqQ_norm ?_
          refine Wp.retN (by kernel_rfl) ?_
          obtain rfl := Option.some.inj h
          exact RetQ.ret (fl := [true]) (by kernel_rfl)
def spec_l2End_F1 (c : Ctx) : (Unit) ⊕ (Int) → Exit → AState → Prop
  | .inl _ => Into c (.exit 0) (mkS [] [])
  | .inr r => RetE TIx Try.f135 [] (.int .i64 r)
def spec_l2End_l0 (p : (List Int) × Int × Int) : Option ((Unit) ⊕ (Int)) :=
  match p with
  | (ty0, missing_4, i_5) =>
    if (decide (i_5 < (ty0.length : Int))) = true then
      (idx ty0 i_5) >>= fun e_5_2 =>
      (spec_l2Kids e_5_2) >>= fun r_5_4 =>
      if (decide (r_5_4 < 0)) = true then
        some (.inr (-1))
      else
        if ((wr ((wr (missing_4 - 1)) + r_5_4)) == 0) = true then
          some (.inr (wr (i_5 + 1)))
        else
          spec_l2End_l0 (ty0, (wr ((wr (missing_4 - 1)) + r_5_4)), (wr (i_5 + 1)))
    else
      some (.inl ())
  partial_fixpoint
def M_spec_l2End_l0 (p : (List Int) × Int × Int) (fl : (Unit) ⊕ (Int)) : Prop :=
  match p with
  | (ty0, missing_4, i_5) => ∀ c : Ctx, c.nt = 30 → WpL Try.prog c (cl (cl (cr (cl (cr (cr B135)))))) (spec_l2End_F1 c fl) (mkS [(0, .sl (List.map I ty0)), (5, .int .i64 missing_4), (6, .int .i64 i_5)] [])
theorem spec_l2End_l0_s : ∀ p r, spec_l2End_l0 p = some r → M_spec_l2End_l0 p r := by
  refine spec_l2End_l0.partial_correctness M_spec_l2End_l0 ?_
  rintro spec_l2End_l0_f spec_l2End_l0_ih ⟨ty0, missing_4, i_5⟩ r h
  intro c hc
  show WpL Try.prog c (cl (cl (cr (cl (cr (cr B135)))))) (spec_l2End_F1 c r) (mkS [(0, .sl (List.map I ty0)), (5, .int .i64 missing_4), (6, .int .i64 i_5)] [])
  refine WpL.step ?_
  refine Wp.seqN (by kernel_rfl) ?_
  refine Wp.seqN (by kernel_rfl) ?_
  refine Wp.reg tiok mix hc (by kernel_rfl) (ah := none) (rs := [some (.no), some (.no), some (.eqv (.no) ⟨[(11, .int .i64 (ty0.length : Int))], [], []⟩), some (.no)]) (kt := [0, 5, 6, 12]) (ko := []) (T' := [(0, .sl (List.map I ty0)), (5, .int .i64 missing_4), (6, .int .i64 i_5), (12, .bool (decide (i_5 < (ty0.length : Int))))]) (O' := []) (by kernel_rfl) (And.intro (lenT (d := 11) I ty0) trivial) (by kernel_rfl) (by kernel_rfl) ?_
  refine seqQ_norm ?_
  rcases itesome h with ⟨hb_6, h⟩ | ⟨hb_6, h⟩
  · refine Wp.condT (b := (decide (i_5 < (ty0.length : Int)))) (by kernel_rfl) (by kernel_rfl) hb_6 ?_
    refine Wp.skipN (by kernel_rfl) ?_
    refine seqQ_norm ?_
    refine Wp.seqN (by kernel_rfl) ?_
    refine Wp.blockN (i := 1) (by kernel_rfl) ?_
    refine Wp.seqN (by kernel_rfl) ?_
    obtain ⟨e_5_2, hi_5_2, h⟩ := bsome h
    obtain ⟨r_5_4, hr_5_4, h⟩ := bsome h
    refine Wp.reg tiok mix hc (by kernel_rfl) (ah := none) (rs := [some (.no), some (.no), some (.el (.int .i64 e_5_2)), some (.no), some (.call (.int .i64 r_5_4) [] 1), some (.no)]) (kt := [0, 5, 6, 7]) (ko := []) (T' := [(0, .sl (List.map I ty0)), (5, .int .i64 missing_4), (6, .int .i64 i_5), (7, .int .i64 r_5_4)]) (O' := []) (by kernel_rfl) (And.intro (idx_sl (enc := I) (x := .int .i64 e_5_2) hi_5_2 (eq_I e_5_2)) (And.intro (spec_l2Kids_s _ _ hr_5_4) (And.intro bod_136 (And.intro (Or.inl rfl : ([] : List Nat) = [] ∨ noSh (.int .i64 r_5_4) = true) trivial)))) (by kernel_rfl) (by kernel_rfl) ?_
    refine seqQ_norm ?_
    refine Wp.seqN (by kernel_rfl) ?_
    refine Wp.seqN (by kernel_rfl) ?_
    refine Wp.reg tiok mix hc (by kernel_rfl) (ah := none) (rs := [some (.no), some (.no)]) (kt := [0, 5, 6, 7, 21]) (ko := []) (T' := [(0, .sl (List.map I ty0)), (5, .int .i64 missing_4), (6, .int .i64 i_5), (7, .int .i64 r_5_4), (21, .bool (decide (r_5_4 < 0)))]) (O' := []) (by kernel_rfl) trivial (by kernel_rfl) (by kernel_rfl) ?_
    refine seqQ_norm ?_
    rcases itesome h with ⟨hb_7, h⟩ | ⟨hb_7, h⟩
    · refine Wp.condT (b := (decide (r_5_4 < 0))) (by kernel_rfl) (by kernel_rfl) hb_7 ?_
      refine Wp.seqN (by kernel_rfl) ?_
      refine Wp.reg tiok mix hc (by kernel_rfl) (ah := none) (rs := [some (.no)]) (kt := [4]) (ko := []) (T' := [(4, .int .i64 (-1))]) (O' := []) (by kernel_rfl) trivial (by kernel_rfl) (by kernel_rfl) ?_
      refine seqQ_norm ?_
      refine Wp.retN (by kernel_rfl) ?_
      refine seqQ_ret ?_
      refine blockQ_ret ?_
      refine seqQ_ret ?_
      refine loopQ_ret ?_
      obtain rfl := Option.some.inj h
      exact RetE.ret (fl := [true]) (by kernel_rfl)
    · refine Wp.condF (b := (decide (r_5_4 < 0))) (by kernel_rfl) (by kernel_rfl) hb_7 ?_
      refine Wp.skipN (by kernel_rfl) ?_
      refine seqQ_norm ?_
      refine Wp.seqN (by kernel_rfl) ?_
      refine Wp.reg tiok mix hc (by kernel_rfl) (ah := none) (rs := [some (.no), some (.no), some (.no), some (.no), some (.no)]) (kt := [0, 5, 6]) (ko := []) (T' := [(0, .sl (List.map I ty0)), (5, .int .i64 (wr ((wr (missing_4 - 1)) + r_5_4))), (6, .int .i64 i_5)]) (O' := []) (by kernel_rfl) trivial (by kernel_rfl) (by kernel_rfl) ?_
      refine seqQ_norm ?_
      refine Wp.seqN (by kernel_rfl) ?_
      refine Wp.reg tiok mix hc (by kernel_rfl) (ah := none) (rs := [some (.no), some (.no)]) (kt := [0, 5, 6, 27]) (ko := []) (T' := [(0, .sl (List.map I ty0)), (5, .int .i64 (wr ((wr (missing_4 - 1)) + r_5_4))), (6, .int .i64 i_5), (27, .bool ((wr ((wr (missing_4 - 1)) + r_5_4)) == 0))]) (O' := []) (by kernel_rfl) trivial (by kernel_rfl) (by kernel_rfl) ?_
      refine seqQ_norm ?_
      rcases itesome h with ⟨hb_8, h⟩ | ⟨hb_8, h⟩
      · refine Wp.condT (b := ((wr ((wr (missing_4 - 1)) + r_5_4)) == 0)) (by kernel_rfl) (by kernel_rfl) hb_8 ?_
        refine Wp.seqN (by kernel_rfl) ?_
        refine Wp.reg tiok mix hc (by kernel_rfl) (ah := none) (rs := [some (.no), some (.no), some (.no)]) (kt := [4]) (ko := []) (T' := [(4, .int .i64 (wr (i_5 + 1)))]) (O' := []) (by kernel_rfl) trivial (by kernel_rfl) (by kernel_rfl) ?_
        refine seqQ_norm ?_
        refine Wp.retN (by kernel_rfl) ?_
        refine blockQ_ret ?_
        refine seqQ_ret ?_
        refine loopQ_ret ?_
        obtain rfl := Option.some.inj h
        exact RetE.ret (fl := [true]) (by kernel_rfl)
      · refine Wp.condF (b := ((wr ((wr (missing_4 - 1)) + r_5_4)) == 0)) (by kernel_rfl) (by kernel_rfl) hb_8 ?_
        refine Wp.skipN (by kernel_rfl) ?_
        refine blockQ_norm ?_
        refine seqQ_norm ?_
        refine Wp.reg tiok mix hc (by kernel_rfl) (ah := none) (rs := [some (.no), some (.no), some (.no)]) (kt := [0, 5, 6]) (ko := []) (T' := [(0, .sl (List.map I ty0)), (5, .int .i64 (wr ((wr (missing_4 - 1)) + r_5_4))), (6, .int .i64 (wr (i_5 + 1)))]) (O' := []) (by kernel_rfl) trivial (by kernel_rfl) (by kernel_rfl) ?_
        refine loopQ_norm ?_
        exact (spec_l2End_l0_ih _ _ h c hc)
  · refine Wp.condF (b := (decide (i_5 < (ty0.length : Int)))) (by kernel_rfl) (by kernel_rfl) hb_6 ?_
    refine Wp.exitN (i := 0) (by kernel_rfl) ?_
    refine seqQ_exit ?_
    refine loopQ_exit ?_
    obtain rfl := Option.some.inj h
    exact Into.view (fun a w hv => SRx.renL [] hv (by kernel_rfl) (by kernel_rfl) (by kernel_rfl))
def spec_l2End (p : (List Int) × Int) : Option (Int) :=
  match p with
  | (ty0, at1) =>
    (spec_l2End_l0 (ty0, 1, at1)) >>= fun fl => match fl with
    | .inl () =>
      some (-1)
    | .inr r =>
      some r
def M_spec_l2End (p : (List Int) × Int) (r : Int) : Prop :=
  match p with
  | (ty0, at1) => FnSound Try.prog 135 [.sl (List.map I ty0), .int .i64 at1] (.int .i64 r) []
theorem spec_l2End_s : ∀ p r, spec_l2End p = some r → M_spec_l2End p r := by
  rintro ⟨ty0, at1⟩ r h
  unfold spec_l2End at h
  show FnSound Try.prog 135 [.sl (List.map I ty0), .int .i64 at1] (.int .i64 r) []
  refine FnSound.body0 tiok (fn := Try.f135) (code := B135) (by kernel_rfl) (by kernel_rfl) (by kernel_rfl) (by kernel_rfl) (nt := 30) (by kernel_rfl) (by kernel_rfl) (T := [(0, .sl (List.map I ty0)), (1, .int .i64 at1)]) (O := []) (by kernel_rfl) (by kernel_rfl) (fun c hc => ?_)
  refine Wp.seqN (by kernel_rfl) ?_
  refine Wp.reg tiok mix hc (by kernel_rfl) (ah := none) (rs := [some (.no)]) (kt := [0, 1]) (ko := []) (T' := [(0, .sl (List.map I ty0)), (1, .int .i64 at1)]) (O' := []) (by kernel_rfl) trivial (by kernel_rfl) (by kernel_rfl) ?_
  refine seqQ_norm ?_
  refine Wp.seqN (by kernel_rfl) ?_
  refine Wp.reg tiok mix hc (by kernel_rfl) (ah := none) (rs := [some (.no)]) (kt := [0, 1, 5]) (ko := []) (T' := [(0, .sl (List.map I ty0)), (1, .int .i64 at1), (5, .int .i64 1)]) (O' := []) (by kernel_rfl) trivial (by kernel_rfl) (by kernel_rfl) ?_
  refine seqQ_norm ?_
  refine Wp.seqN (by kernel_rfl) ?_
  refine Wp.seqN (by kernel_rfl) ?_
  refine Wp.reg tiok mix hc (by kernel_rfl) (ah := none) (rs := [some (.no), some (.no)]) (kt := [0, 5, 6]) (ko := []) (T' := [(0, .sl (List.map I ty0)), (5, .int .i64 1), (6, .int .i64 at1)]) (O' := []) (by kernel_rfl) trivial (by kernel_rfl) (by kernel_rfl) ?_
  refine seqQ_norm ?_
  refine Wp.blockN (i := 0) (by kernel_rfl) ?_
  obtain ⟨fl, hl_9, h⟩ := bsome h
  have hL := spec_l2End_l0_s _ _ hl_9 c hc
  refine Wp.loopN (by kernel_rfl) ?_
  rcases fl with ⟨⟩ | r
  · refine WpL.into (e := (.exit 0)) (mkS [] []) hL ?_
    refine blockQ_hit ?_
    refine seqQ_norm ?_
    refine Wp.seqN (by kernel_rfl) ?_
    refine Wp.reg tiok mix hc (by kernel_rfl) (ah := none) (rs := [some (.no)]) (kt := [4]) (ko := []) (T' := [(4, .int .i64 (-1))]) (O' := []) (by kernel_rfl) trivial (by kernel_rfl) (by kernel_rfl) ?_
    refine seqQ_norm ?_
    refine Wp.retN (by kernel_rfl) ?_
    obtain rfl := Option.some.inj h
    exact RetQ.ret (fl := [true]) (by kernel_rfl)
  · refine WpL.mono hL ?_
    rintro _ _ ⟨rfl, hfin⟩
    refine blockQ_ret ?_
    refine seqQ_ret ?_
    obtain rfl := Option.some.inj h
    exact ⟨.inl rfl, hfin⟩
def spec_l2Type (ty0 : (List Int)) : Option (Bool) :=
    (
      if (decide ((ty0.length : Int) ≤ 40)) = true then
        (spec_l2End (ty0, 0)) >>= fun r_1_5 =>
        if (r_1_5 == (ty0.length : Int)) = true then
          some ((decide ((ty0.length : Int) > 0)))
        else
          some (false)
      else
        some (false)
    ) >>= fun v_1 =>
    some v_1
def M_spec_l2Type (ty0 : (List Int)) (r : Bool) : Prop :=
  FnSound Try.prog 86 [.sl (List.map I ty0)] (.bool r) []
theorem spec_l2Type_s : ∀ p r, spec_l2Type p = some r → M_spec_l2Type p r := by
  rintro ty0 r h
  unfold spec_l2Type at h
  show FnSound Try.prog 86 [.sl (List.map I ty0)] (.bool r) []
  refine FnSound.body0 tiok (fn := Try.f86) (code := B86) (by kernel_rfl) (by kernel_rfl) (by kernel_rfl) (by kernel_rfl) (nt := 18) (by kernel_rfl) (by kernel_rfl) (T := [(0, .sl (List.map I ty0))]) (O := []) (by kernel_rfl) (by kernel_rfl) (fun c hc => ?_)
  refine Wp.seqN (by kernel_rfl) ?_
  refine Wp.reg tiok mix hc (by kernel_rfl) (ah := none) (rs := [some (.no)]) (kt := [0]) (ko := []) (T' := [(0, .sl (List.map I ty0))]) (O' := []) (by kernel_rfl) trivial (by kernel_rfl) (by kernel_rfl) ?_
  refine seqQ_norm ?_
  refine Wp.seqN (by kernel_rfl) ?_
  obtain ⟨v_1, hj_2, h⟩ := bsome h
  refine Wp.into (x := .normal) (mkS [(2, .bool v_1)] []) ?_ ?_
  · replace h := hj_2
    rcases itesome h with ⟨hb_1_0, h⟩ | ⟨hb_1_0, h⟩
    · obtain ⟨r_1_5, hr_1_5, h⟩ := bsome h
      rcases itesome h with ⟨hb_1_1, h⟩ | ⟨hb_1_1, h⟩
      · refine Wp.reg tiok mix hc (by kernel_rfl) (ah := none) (rs := [some (.no), some (.eqv (.no) ⟨[(4, .int .i64 (ty0.length : Int))], [], []⟩), some (.no), some (.no), some (.no), some (.call (.int .i64 r_1_5) [] 1), some (.no), some (.eqv (.no) ⟨[(10, .int .i64 (ty0.length : Int))], [], []⟩), some (.no), some (.cond true), some (.no), some (.no), some (.eqv (.no) ⟨[(15, .int .i64 (ty0.length : Int))], [], []⟩), some (.no), some (.cond true), some (.no)]) (kt := [2]) (ko := []) (T' := [(2, .bool (decide ((ty0.length : Int) > 0)))]) (O' := []) (by kernel_rfl) (And.intro (lenT (d := 4) I ty0) (And.intro hb_1_0 (And.intro hb_1_0 (And.intro (spec_l2End_s _ _ hr_1_5) (And.intro bod_135 (And.intro (Or.inl rfl : ([] : List Nat) = [] ∨ noSh (.int .i64 r_1_5) = true) (And.intro hb_1_0 (And.intro hb_1_0 (And.intro (lenT (d := 10) I ty0) (And.intro hb_1_0 (And.intro hb_1_0 (And.intro hb_1_1 (And.intro hb_1_1 (And.intro (lenT (d := 15) I ty0) (And.intro hb_1_1 (And.intro hb_1_1 trivial)))))))))))))))) (by kernel_rfl) (by kernel_rfl) ?_
        obtain rfl := Option.some.inj h
        exact Into.mk
      · refine Wp.reg tiok mix hc (by kernel_rfl) (ah := none) (rs := [some (.no), some (.eqv (.no) ⟨[(4, .int .i64 (ty0.length : Int))], [], []⟩), some (.no), some (.no), some (.no), some (.call (.int .i64 r_1_5) [] 1), some (.no), some (.eqv (.no) ⟨[(10, .int .i64 (ty0.length : Int))], [], []⟩), some (.no), some (.cond true), some (.no), none, none, none, some (.cond false), some (.no)]) (kt := [2]) (ko := []) (T' := [(2, .bool false)]) (O' := []) (by kernel_rfl) (And.intro (lenT (d := 4) I ty0) (And.intro hb_1_0 (And.intro hb_1_0 (And.intro (spec_l2End_s _ _ hr_1_5) (And.intro bod_135 (And.intro (Or.inl rfl : ([] : List Nat) = [] ∨ noSh (.int .i64 r_1_5) = true) (And.intro hb_1_0 (And.intro hb_1_0 (And.intro (lenT (d := 10) I ty0) (And.intro hb_1_0 (And.intro hb_1_0 (And.intro (neT hb_1_1 : (r_1_5 == (ty0.length : Int)) ≠ true) (And.intro (neT hb_1_1 : (r_1_5 == (ty0.length : Int)) ≠ true) (And.intro (neT hb_1_1 : (r_1_5 == (ty0.length : Int)) ≠ true) (And.intro hb_1_1 trivial))))))))))))))) (by kernel_rfl) (by kernel_rfl) ?_
        obtain rfl := Option.some.inj h
        exact Into.mk
    · refine Wp.reg tiok mix hc (by kernel_rfl) (ah := none) (rs := [some (.no), some (.eqv (.no) ⟨[(4, .int .i64 (ty0.length : Int))], [], []⟩), some (.no), some (.no), none, none, none, none, none, some (.cond false), some (.no), none, none, none, some (.cond false), some (.no)]) (kt := [2]) (ko := []) (T' := [(2, .bool false)]) (O' := []) (by kernel_rfl) (And.intro (lenT (d := 4) I ty0) (And.intro (neT hb_1_0 : (decide ((ty0.length : Int) ≤ 40)) ≠ true) (And.intro (neT hb_1_0 : (decide ((ty0.length : Int) ≤ 40)) ≠ true) (And.intro (neT hb_1_0 : (decide ((ty0.length : Int) ≤ 40)) ≠ true) (And.intro (neT hb_1_0 : (decide ((ty0.length : Int) ≤ 40)) ≠ true) (And.intro (neT hb_1_0 : (decide ((ty0.length : Int) ≤ 40)) ≠ true) (And.intro hb_1_0 (And.intro (neT (rfl : false = false) : false ≠ true) (And.intro (neT (rfl : false = false) : false ≠ true) (And.intro (neT (rfl : false = false) : false ≠ true) (And.intro (rfl : false = false) trivial))))))))))) (by kernel_rfl) (by kernel_rfl) ?_
      obtain rfl := Option.some.inj h
      exact Into.mk
  · clear hj_2
    refine seqQ_norm ?_
    refine Wp.retN (by kernel_rfl) ?_
    obtain rfl := Option.some.inj h
    exact RetQ.ret (fl := [true]) (by kernel_rfl)
def spec_l2Grade (c0 : Int) : Option (Int) :=
    if (decide (c0 ≥ 35)) = true then
      some (-1)
    else
      if (decide (c0 ≥ 19)) = true then
        some (wr (c0 - 19))
      else
        some (wr (c0 - 3))
def M_spec_l2Grade (c0 : Int) (r : Int) : Prop :=
  FnSound Try.prog 101 [.int .i64 c0] (.int .i64 r) []
theorem spec_l2Grade_s : ∀ p r, spec_l2Grade p = some r → M_spec_l2Grade p r := by
  rintro c0 r h
  unfold spec_l2Grade at h
  show FnSound Try.prog 101 [.int .i64 c0] (.int .i64 r) []
  refine FnSound.body0 tiok (fn := Try.f101) (code := B101) (by kernel_rfl) (by kernel_rfl) (by kernel_rfl) (by kernel_rfl) (nt := 13) (by kernel_rfl) (by kernel_rfl) (T := [(0, .int .i64 c0)]) (O := []) (by kernel_rfl) (by kernel_rfl) (fun c hc => ?_)
  refine Wp.seqN (by kernel_rfl) ?_
  refine Wp.reg tiok mix hc (by kernel_rfl) (ah := none) (rs := [some (.no)]) (kt := [0]) (ko := []) (T' := [(0, .int .i64 c0)]) (O' := []) (by kernel_rfl) trivial (by kernel_rfl) (by kernel_rfl) ?_
  refine seqQ_norm ?_
  refine Wp.seqN (by kernel_rfl) ?_
  refine Wp.blockN (i := 0) (by kernel_rfl) ?_
  refine Wp.seqN (by kernel_rfl) ?_
  refine Wp.reg tiok mix hc (by kernel_rfl) (ah := none) (rs := [some (.no), some (.no), some (.no)]) (kt := [0, 3]) (ko := []) (T' := [(0, .int .i64 c0), (3, .bool (decide (c0 ≥ 35)))]) (O' := []) (by kernel_rfl) trivial (by kernel_rfl) (by kernel_rfl) ?_
  refine seqQ_norm ?_
  rcases itesome h with ⟨hb_1, h⟩ | ⟨hb_1, h⟩
  · refine Wp.condT (b := (decide (c0 ≥ 35))) (by kernel_rfl) (by kernel_rfl) hb_1 ?_
    refine Wp.seqN (by kernel_rfl) ?_
    refine Wp.reg tiok mix hc (by kernel_rfl) (ah := none) (rs := [some (.no)]) (kt := [2]) (ko := []) (T' := [(2, .int .i64 (-1))]) (O' := []) (by kernel_rfl) trivial (by kernel_rfl) (by kernel_rfl) ?_
    refine seqQ_norm ?_
    refine Wp.retN (by kernel_rfl) ?_
    refine blockQ_ret ?_
    refine seqQ_ret ?_
    obtain rfl := Option.some.inj h
    exact RetQ.ret (fl := [true]) (by kernel_rfl)
  · refine Wp.condF (b := (decide (c0 ≥ 35))) (by kernel_rfl) (by kernel_rfl) hb_1 ?_
    refine Wp.seqN (by kernel_rfl) ?_
    refine Wp.reg tiok mix hc (by kernel_rfl) (ah := none) (rs := [some (.no), some (.no), some (.no)]) (kt := [0, 6]) (ko := []) (T' := [(0, .int .i64 c0), (6, .bool (decide (c0 ≥ 19)))]) (O' := []) (by kernel_rfl) trivial (by kernel_rfl) (by kernel_rfl) ?_
    refine seqQ_norm ?_
    rcases itesome h with ⟨hb_2, h⟩ | ⟨hb_2, h⟩
    · refine Wp.condT (b := (decide (c0 ≥ 19))) (by kernel_rfl) (by kernel_rfl) hb_2 ?_
      refine Wp.seqN (by kernel_rfl) ?_
      refine Wp.reg tiok mix hc (by kernel_rfl) (ah := none) (rs := [some (.no), some (.no), some (.no)]) (kt := [2]) (ko := []) (T' := [(2, .int .i64 (wr (c0 - 19)))]) (O' := []) (by kernel_rfl) trivial (by kernel_rfl) (by kernel_rfl) ?_
      refine seqQ_norm ?_
      refine Wp.retN (by kernel_rfl) ?_
      refine blockQ_ret ?_
      refine seqQ_ret ?_
      obtain rfl := Option.some.inj h
      exact RetQ.ret (fl := [true]) (by kernel_rfl)
    · refine Wp.condF (b := (decide (c0 ≥ 19))) (by kernel_rfl) (by kernel_rfl) hb_2 ?_
      refine Wp.skipN (by kernel_rfl) ?_
      refine blockQ_norm ?_
      refine seqQ_norm ?_
      refine Wp.seqN (by kernel_rfl) ?_
      refine Wp.reg tiok mix hc (by kernel_rfl) (ah := none) (rs := [some (.no), some (.no), some (.no)]) (kt := [2]) (ko := []) (T' := [(2, .int .i64 (wr (c0 - 3)))]) (O' := []) (by kernel_rfl) trivial (by kernel_rfl) (by kernel_rfl) ?_
      refine seqQ_norm ?_
      refine Wp.retN (by kernel_rfl) ?_
      obtain rfl := Option.some.inj h
      exact RetQ.ret (fl := [true]) (by kernel_rfl)
def spec_l2Graded_F1 (c : Ctx) (ty0 : List Int) (size1 : Int) (closed2 : Bool) (i_9 : Int) : (Unit) ⊕ (Bool) → Exit → AState → Prop
  | .inl _ => Into c .normal (mkS [(0, .sl (List.map I ty0)), (1, .int .i64 size1), (2, .bool closed2), (7, .int .i64 i_9)] [])
  | .inr r => RetE TIx Try.f87 [] (.bool r)
def spec_l2Graded_F2 (c : Ctx) : (Unit) ⊕ (Bool) → Exit → AState → Prop
  | .inl _ => Into c (.exit 0) (mkS [] [])
  | .inr r => RetE TIx Try.f87 [] (.bool r)
def spec_l2Graded_l0 (p : (List Int) × Int × Bool × Int) : Option ((Unit) ⊕ (Bool)) :=
  match p with
  | (ty0, size1, closed2, i_9) =>
    if (decide (i_9 < (ty0.length : Int))) = true then
      (
        (idx ty0 i_9) >>= fun e_4_2 =>
        (spec_l2Kids e_4_2) >>= fun r_4_4 =>
        if (decide (r_4_4 > 0)) = true then
          (idx ty0 i_9) >>= fun e_4_9 =>
          some ((decide (e_4_9 > 2)))
        else
          some (false)
      ) >>= fun v_11 =>
      ((
        if v_11 = true then
          (idx ty0 i_9) >>= fun e_5_2 =>
          (spec_l2Grade e_5_2) >>= fun r_5_4 =>
          (
            if (decide (r_5_4 ≥ size1)) = true then
              some (true)
            else
              if closed2 = true then
                some ((decide (r_5_4 < 0)))
              else
                some (false)
          ) >>= fun v_14 =>
          if v_14 = true then
            some (.inr false)
          else
            some (.inl ())
        else
          some (.inl ())) : Option ((Unit) ⊕ (Bool))) >>= fun fl => match fl with
      | .inl () =>
        spec_l2Graded_l0 (ty0, size1, closed2, (wr (i_9 + 1)))
      | .inr r =>
        some (.inr r)
    else
      some (.inl ())
  partial_fixpoint
def M_spec_l2Graded_l0 (p : (List Int) × Int × Bool × Int) (fl : (Unit) ⊕ (Bool)) : Prop :=
  match p with
  | (ty0, size1, closed2, i_9) => ∀ c : Ctx, c.nt = 43 → WpL Try.prog c (cl (cl (cr (cl (cr B87))))) (spec_l2Graded_F2 c fl) (mkS [(0, .sl (List.map I ty0)), (1, .int .i64 size1), (2, .bool closed2), (7, .int .i64 i_9)] [])
theorem spec_l2Graded_l0_s : ∀ p r, spec_l2Graded_l0 p = some r → M_spec_l2Graded_l0 p r := by
  refine spec_l2Graded_l0.partial_correctness M_spec_l2Graded_l0 ?_
  rintro spec_l2Graded_l0_f spec_l2Graded_l0_ih ⟨ty0, size1, closed2, i_9⟩ r h
  intro c hc
  show WpL Try.prog c (cl (cl (cr (cl (cr B87))))) (spec_l2Graded_F2 c r) (mkS [(0, .sl (List.map I ty0)), (1, .int .i64 size1), (2, .bool closed2), (7, .int .i64 i_9)] [])
  refine WpL.step ?_
  refine Wp.seqN (by kernel_rfl) ?_
  refine Wp.seqN (by kernel_rfl) ?_
  refine Wp.reg tiok mix hc (by kernel_rfl) (ah := none) (rs := [some (.no), some (.no), some (.eqv (.no) ⟨[(11, .int .i64 (ty0.length : Int))], [], []⟩), some (.no)]) (kt := [0, 1, 2, 7, 12]) (ko := []) (T' := [(0, .sl (List.map I ty0)), (1, .int .i64 size1), (2, .bool closed2), (7, .int .i64 i_9), (12, .bool (decide (i_9 < (ty0.length : Int))))]) (O' := []) (by kernel_rfl) (And.intro (lenT (d := 11) I ty0) trivial) (by kernel_rfl) (by kernel_rfl) ?_
  refine seqQ_norm ?_
  rcases itesome h with ⟨hb_10, h⟩ | ⟨hb_10, h⟩
  · refine Wp.condT (b := (decide (i_9 < (ty0.length : Int)))) (by kernel_rfl) (by kernel_rfl) hb_10 ?_
    refine Wp.skipN (by kernel_rfl) ?_
    refine seqQ_norm ?_
    refine Wp.seqN (by kernel_rfl) ?_
    refine Wp.blockN (i := 1) (by kernel_rfl) ?_
    refine Wp.seqN (by kernel_rfl) ?_
    obtain ⟨v_11, hj_12, h⟩ := bsome h
    refine Wp.into (x := .normal) (mkS [(0, .sl (List.map I ty0)), (1, .int .i64 size1), (2, .bool closed2), (7, .int .i64 i_9), (27, .bool v_11)] []) ?_ ?_
    · replace h := hj_12
      obtain ⟨e_4_2, hi_4_2, h⟩ := bsome h
      obtain ⟨r_4_4, hr_4_4, h⟩ := bsome h
      rcases itesome h with ⟨hb_4_0, h⟩ | ⟨hb_4_0, h⟩
      · obtain ⟨e_4_9, hi_4_9, h⟩ := bsome h
        refine Wp.reg tiok mix hc (by kernel_rfl) (ah := none) (rs := [some (.no), some (.no), some (.el (.int .i64 e_4_2)), some (.no), some (.call (.int .i64 r_4_4) [] 1), some (.no), some (.no), some (.no), some (.no), some (.el (.int .i64 e_4_9)), some (.no), some (.no), some (.cond true)]) (kt := [0, 1, 2, 7, 27]) (ko := []) (T' := [(0, .sl (List.map I ty0)), (1, .int .i64 size1), (2, .bool closed2), (7, .int .i64 i_9), (27, .bool (decide (e_4_9 > 2)))]) (O' := []) (by kernel_rfl) (And.intro (idx_sl (enc := I) (x := .int .i64 e_4_2) hi_4_2 (eq_I e_4_2)) (And.intro (spec_l2Kids_s _ _ hr_4_4) (And.intro bod_136 (And.intro (Or.inl rfl : ([] : List Nat) = [] ∨ noSh (.int .i64 r_4_4) = true) (And.intro hb_4_0 (And.intro hb_4_0 (And.intro hb_4_0 (And.intro (idx_sl (enc := I) (x := .int .i64 e_4_9) hi_4_9 (eq_I e_4_9)) (And.intro hb_4_0 (And.intro hb_4_0 (And.intro hb_4_0 trivial))))))))))) (by kernel_rfl) (by kernel_rfl) ?_
        obtain rfl := Option.some.inj h
        exact Into.mk
      · refine Wp.reg tiok mix hc (by kernel_rfl) (ah := none) (rs := [some (.no), some (.no), some (.el (.int .i64 e_4_2)), some (.no), some (.call (.int .i64 r_4_4) [] 1), some (.no), some (.no), none, none, none, none, none, some (.cond false)]) (kt := [0, 1, 2, 7, 27]) (ko := []) (T' := [(0, .sl (List.map I ty0)), (1, .int .i64 size1), (2, .bool closed2), (7, .int .i64 i_9), (27, .bool false)]) (O' := []) (by kernel_rfl) (And.intro (idx_sl (enc := I) (x := .int .i64 e_4_2) hi_4_2 (eq_I e_4_2)) (And.intro (spec_l2Kids_s _ _ hr_4_4) (And.intro bod_136 (And.intro (Or.inl rfl : ([] : List Nat) = [] ∨ noSh (.int .i64 r_4_4) = true) (And.intro (neT hb_4_0 : (decide (r_4_4 > 0)) ≠ true) (And.intro (neT hb_4_0 : (decide (r_4_4 > 0)) ≠ true) (And.intro (neT hb_4_0 : (decide (r_4_4 > 0)) ≠ true) (And.intro (neT hb_4_0 : (decide (r_4_4 > 0)) ≠ true) (And.intro (neT hb_4_0 : (decide (r_4_4 > 0)) ≠ true) (And.intro hb_4_0 trivial)))))))))) (by kernel_rfl) (by kernel_rfl) ?_
        obtain rfl := Option.some.inj h
        exact Into.mk
    · clear hj_12
      refine seqQ_norm ?_
      obtain ⟨fl, hj_17, h⟩ := bsome h
      have hF : Wp Try.prog c (cr (cl (cl (cr (cl (cl (cr (cl (cr B87))))))))) (spec_l2Graded_F1 c ty0 size1 closed2 i_9 fl) (mkS [(0, .sl (List.map I ty0)), (1, .int .i64 size1), (2, .bool closed2), (7, .int .i64 i_9), (27, .bool v_11)] []) := by
        replace h := hj_17
        rcases itesome h with ⟨hb_13, h⟩ | ⟨hb_13, h⟩
        · refine Wp.condT (b := v_11) (by kernel_rfl) (by kernel_rfl) hb_13 ?_
          refine Wp.seqN (by kernel_rfl) ?_
          obtain ⟨e_5_2, hi_5_2, h⟩ := bsome h
          obtain ⟨r_5_4, hr_5_4, h⟩ := bsome h
          refine Wp.reg tiok mix hc (by kernel_rfl) (ah := none) (rs := [some (.no), some (.no), some (.el (.int .i64 e_5_2)), some (.no), some (.call (.int .i64 r_5_4) [] 1), some (.no)]) (kt := [0, 1, 2, 7, 8]) (ko := []) (T' := [(0, .sl (List.map I ty0)), (1, .int .i64 size1), (2, .bool closed2), (7, .int .i64 i_9), (8, .int .i64 r_5_4)]) (O' := []) (by kernel_rfl) (And.intro (idx_sl (enc := I) (x := .int .i64 e_5_2) hi_5_2 (eq_I e_5_2)) (And.intro (spec_l2Grade_s _ _ hr_5_4) (And.intro bod_101 (And.intro (Or.inl rfl : ([] : List Nat) = [] ∨ noSh (.int .i64 r_5_4) = true) trivial)))) (by kernel_rfl) (by kernel_rfl) ?_
          refine seqQ_norm ?_
          refine Wp.seqN (by kernel_rfl) ?_
          obtain ⟨v_14, hj_15, h⟩ := bsome h
          refine Wp.into (x := .normal) (mkS [(0, .sl (List.map I ty0)), (1, .int .i64 size1), (2, .bool closed2), (7, .int .i64 i_9), (42, .bool v_14)] []) ?_ ?_
          · replace h := hj_15
            rcases itesome h with ⟨hb_6_0, h⟩ | ⟨hb_6_0, h⟩
            · refine Wp.reg tiok mix hc (by kernel_rfl) (ah := none) (rs := [some (.no), some (.no), some (.no), some (.no), none, none, none, none, none, some (.cond true)]) (kt := [0, 1, 2, 7, 42]) (ko := []) (T' := [(0, .sl (List.map I ty0)), (1, .int .i64 size1), (2, .bool closed2), (7, .int .i64 i_9), (42, .bool true)]) (O' := []) (by kernel_rfl) (And.intro (neF hb_6_0 : (decide (r_5_4 ≥ size1)) ≠ false) (And.intro (neF hb_6_0 : (decide (r_5_4 ≥ size1)) ≠ false) (And.intro (neF hb_6_0 : (decide (r_5_4 ≥ size1)) ≠ false) (And.intro hb_6_0 trivial)))) (by kernel_rfl) (by kernel_rfl) ?_
              obtain rfl := Option.some.inj h
              exact Into.mk
            · rcases itesome h with ⟨hb_6_1, h⟩ | ⟨hb_6_1, h⟩
              · refine Wp.reg tiok mix hc (by kernel_rfl) (ah := none) (rs := [some (.no), some (.no), some (.no), some (.no), some (.no), some (.no), some (.no), some (.no), some (.cond true), some (.cond false)]) (kt := [0, 1, 2, 7, 42]) (ko := []) (T' := [(0, .sl (List.map I ty0)), (1, .int .i64 size1), (2, .bool closed2), (7, .int .i64 i_9), (42, .bool (decide (r_5_4 < 0)))]) (O' := []) (by kernel_rfl) (And.intro hb_6_0 (And.intro hb_6_0 (And.intro hb_6_1 (And.intro hb_6_1 (And.intro hb_6_0 (And.intro hb_6_1 (And.intro hb_6_0 trivial))))))) (by kernel_rfl) (by kernel_rfl) ?_
                obtain rfl := Option.some.inj h
                exact Into.mk
              · refine Wp.reg tiok mix hc (by kernel_rfl) (ah := none) (rs := [some (.no), some (.no), some (.no), some (.no), some (.no), some (.no), none, none, some (.cond false), some (.cond false)]) (kt := [0, 1, 2, 7, 42]) (ko := []) (T' := [(0, .sl (List.map I ty0)), (1, .int .i64 size1), (2, .bool closed2), (7, .int .i64 i_9), (42, .bool false)]) (O' := []) (by kernel_rfl) (And.intro hb_6_0 (And.intro hb_6_0 (And.intro (neT hb_6_1 : closed2 ≠ true) (And.intro (neT hb_6_1 : closed2 ≠ true) (And.intro hb_6_0 (And.intro hb_6_1 (And.intro hb_6_0 trivial))))))) (by kernel_rfl) (by kernel_rfl) ?_
                obtain rfl := Option.some.inj h
                exact Into.mk
          · clear hj_15
            refine seqQ_norm ?_
            rcases itesome h with ⟨hb_16, h⟩ | ⟨hb_16, h⟩
            · refine Wp.condT (b := v_14) (by kernel_rfl) (by kernel_rfl) hb_16 ?_
              refine Wp.seqN (by kernel_rfl) ?_
              refine Wp.reg tiok mix hc (by kernel_rfl) (ah := none) (rs := [some (.no)]) (kt := [6]) (ko := []) (T' := [(6, .bool false)]) (O' := []) (by kernel_rfl) trivial (by kernel_rfl) (by kernel_rfl) ?_
              refine seqQ_norm ?_
              refine Wp.retN (by kernel_rfl) ?_
              obtain rfl := Option.some.inj h
              exact RetE.ret (fl := [true]) (by kernel_rfl)
            · refine Wp.condF (b := v_14) (by kernel_rfl) (by kernel_rfl) hb_16 ?_
              refine Wp.skipN (by kernel_rfl) ?_
              obtain rfl := Option.some.inj h
              exact Into.view (fun a w hv => SRx.renL [] hv (by kernel_rfl) (by kernel_rfl) (by kernel_rfl))
        · refine Wp.condF (b := v_11) (by kernel_rfl) (by kernel_rfl) hb_13 ?_
          refine Wp.skipN (by kernel_rfl) ?_
          obtain rfl := Option.some.inj h
          exact Into.view (fun a w hv => SRx.renL [] hv (by kernel_rfl) (by kernel_rfl) (by kernel_rfl))
      rcases fl with ⟨⟩ | r
      · refine Wp.into (x := .normal) (mkS [(0, .sl (List.map I ty0)), (1, .int .i64 size1), (2, .bool closed2), (7, .int .i64 i_9)] []) hF ?_
        refine blockQ_norm ?_
        refine seqQ_norm ?_
        refine Wp.reg tiok mix hc (by kernel_rfl) (ah := none) (rs := [some (.no), some (.no), some (.no)]) (kt := [0, 1, 2, 7]) (ko := []) (T' := [(0, .sl (List.map I ty0)), (1, .int .i64 size1), (2, .bool closed2), (7, .int .i64 (wr (i_9 + 1)))]) (O' := []) (by kernel_rfl) trivial (by kernel_rfl) (by kernel_rfl) ?_
        refine loopQ_norm ?_
        exact (spec_l2Graded_l0_ih _ _ h c hc)
      · refine Wp.mono hF ?_
        rintro _ _ ⟨rfl, hfin⟩
        refine blockQ_ret ?_
        refine seqQ_ret ?_
        refine loopQ_ret ?_
        obtain rfl := Option.some.inj h
        exact ⟨rfl, hfin⟩
  · refine Wp.condF (b := (decide (i_9 < (ty0.length : Int)))) (by kernel_rfl) (by kernel_rfl) hb_10 ?_
    refine Wp.exitN (i := 0) (by kernel_rfl) ?_
    refine seqQ_exit ?_
    refine loopQ_exit ?_
    obtain rfl := Option.some.inj h
    exact Into.view (fun a w hv => SRx.renL [] hv (by kernel_rfl) (by kernel_rfl) (by kernel_rfl))
def spec_l2Graded (p : (List Int) × Int × Bool) : Option (Bool) :=
  match p with
  | (ty0, size1, closed2) =>
    (spec_l2Graded_l0 (ty0, size1, closed2, 0)) >>= fun fl => match fl with
    | .inl () =>
      some true
    | .inr r =>
      some r
def M_spec_l2Graded (p : (List Int) × Int × Bool) (r : Bool) : Prop :=
  match p with
  | (ty0, size1, closed2) => FnSound Try.prog 87 [.sl (List.map I ty0), .int .i64 size1, .bool closed2] (.bool r) []
theorem spec_l2Graded_s : ∀ p r, spec_l2Graded p = some r → M_spec_l2Graded p r := by
  rintro ⟨ty0, size1, closed2⟩ r h
  unfold spec_l2Graded at h
  show FnSound Try.prog 87 [.sl (List.map I ty0), .int .i64 size1, .bool closed2] (.bool r) []
  refine FnSound.body0 tiok (fn := Try.f87) (code := B87) (by kernel_rfl) (by kernel_rfl) (by kernel_rfl) (by kernel_rfl) (nt := 43) (by kernel_rfl) (by kernel_rfl) (T := [(0, .sl (List.map I ty0)), (1, .int .i64 size1), (2, .bool closed2)]) (O := []) (by kernel_rfl) (by kernel_rfl) (fun c hc => ?_)
  refine Wp.seqN (by kernel_rfl) ?_
  refine Wp.reg tiok mix hc (by kernel_rfl) (ah := none) (rs := [some (.no)]) (kt := [0, 1, 2]) (ko := []) (T' := [(0, .sl (List.map I ty0)), (1, .int .i64 size1), (2, .bool closed2)]) (O' := []) (by kernel_rfl) trivial (by kernel_rfl) (by kernel_rfl) ?_
  refine seqQ_norm ?_
  refine Wp.seqN (by kernel_rfl) ?_
  refine Wp.seqN (by kernel_rfl) ?_
  refine Wp.reg tiok mix hc (by kernel_rfl) (ah := none) (rs := [some (.no)]) (kt := [0, 1, 2, 7]) (ko := []) (T' := [(0, .sl (List.map I ty0)), (1, .int .i64 size1), (2, .bool closed2), (7, .int .i64 0)]) (O' := []) (by kernel_rfl) trivial (by kernel_rfl) (by kernel_rfl) ?_
  refine seqQ_norm ?_
  refine Wp.blockN (i := 0) (by kernel_rfl) ?_
  obtain ⟨fl, hl_18, h⟩ := bsome h
  have hL := spec_l2Graded_l0_s _ _ hl_18 c hc
  refine Wp.loopN (by kernel_rfl) ?_
  rcases fl with ⟨⟩ | r
  · refine WpL.into (e := (.exit 0)) (mkS [] []) hL ?_
    refine blockQ_hit ?_
    refine seqQ_norm ?_
    refine Wp.seqN (by kernel_rfl) ?_
    refine Wp.reg tiok mix hc (by kernel_rfl) (ah := none) (rs := [some (.no)]) (kt := [6]) (ko := []) (T' := [(6, .bool true)]) (O' := []) (by kernel_rfl) trivial (by kernel_rfl) (by kernel_rfl) ?_
    refine seqQ_norm ?_
    refine Wp.retN (by kernel_rfl) ?_
    obtain rfl := Option.some.inj h
    exact RetQ.ret (fl := [true]) (by kernel_rfl)
  · refine WpL.mono hL ?_
    rintro _ _ ⟨rfl, hfin⟩
    refine blockQ_ret ?_
    refine seqQ_ret ?_
    obtain rfl := Option.some.inj h
    exact ⟨.inl rfl, hfin⟩
def spec_l2Node_F1 (c : Ctx) (t0 : GTerm) (size2 : Int) (closed3 : Bool) : (Unit) ⊕ (Bool) → Exit → AState → Prop
  | .inl _ => Into c .normal (mkS [(2, .int .i64 size2), (3, .bool closed3), (4, .ra 1 0)] [(1, .box [.int .i64 t0.fOp, .int .i64 t0.fN, .sl (List.map I t0.fType), .sl (List.map GTerm_S t0.fKids)])])
  | .inr r => RetE TIx Try.f133 [] (.bool r)
def spec_l2Node_F2 (c : Ctx) (t0 : GTerm) (size2 : Int) (closed3 : Bool) : (Unit) ⊕ (Bool) → Exit → AState → Prop
  | .inl _ => Into c .normal (mkS [(2, .int .i64 size2), (3, .bool closed3), (4, .ra 1 0)] [(1, .box [.int .i64 t0.fOp, .int .i64 t0.fN, .sl (List.map I t0.fType), .sl (List.map GTerm_S t0.fKids)])])
  | .inr r => RetE TIx Try.f133 [] (.bool r)
def spec_l2Node_F3 (c : Ctx) (t0 : GTerm) (size2 : Int) (closed3 : Bool) : (Unit) ⊕ (Bool) → Exit → AState → Prop
  | .inl _ => Into c .normal (mkS [(2, .int .i64 size2), (3, .bool closed3), (4, .ra 1 0)] [(1, .box [.int .i64 t0.fOp, .int .i64 t0.fN, .sl (List.map I t0.fType), .sl (List.map GTerm_S t0.fKids)])])
  | .inr r => RetE TIx Try.f133 [] (.bool r)
end Go.Am
