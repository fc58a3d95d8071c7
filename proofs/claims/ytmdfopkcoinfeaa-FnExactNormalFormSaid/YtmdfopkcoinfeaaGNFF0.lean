/- Functions of the program as pure functions, and that it computes them. Printed by a program of mine (gen.py). -/
import Derived.Test.YtmdfopkcoinfeaaGNFTi
set_option linter.unusedVariables false
set_option linter.unusedSimpArgs false
set_option maxRecDepth 100000
namespace Go.Am
open Go Go.Proofs
def laws_szIntS (p : (List Int) × Int) : Option (Int) :=
 match p with
 | (a0, left1) =>
  if (decide ((wr (left1 - (a0.length : Int))) < 0)) = true then
   some (-1)
  else
   some (wr (left1 - (a0.length : Int)))
def M_laws_szIntS (p : (List Int) × Int) (r : Int) : Prop :=
 match p with
 | (a0, left1) => FnSound Try.prog 30 [sI a0, I left1] (I r) []
theorem laws_szIntS_s : ∀ p r, laws_szIntS p = some r → M_laws_szIntS p r := by
 rintro ⟨a0, left1⟩ r h
 unfold laws_szIntS at h
 show FnSound Try.prog 30 [sI a0, I left1] (I r) []
 refine FnSound.body0 tiok (fn := Try.f30) (code := B30) (by kernel_rfl) (by kernel_rfl) (by kernel_rfl) (by kernel_rfl) (nt := 12) (by kernel_rfl) (by kernel_rfl) (T := [(0, sI a0), (1, I left1)]) (O := []) (by kernel_rfl) (by kernel_rfl) (fun c hc => ?_)
 refine sN ?_
 refine rg0 hc 1 [(0, sI a0), (1, I left1)] [] ?_
 refine seqQ_norm ?_
 refine sN ?_
 refine rg hc none [oN, oN, some (.eqv (.no) ⟨[(7, I (a0.length : Int))], [], []⟩), oN, oN] [(1, I (wr (left1 - (a0.length : Int))))] [] (ai (lenT (d := 7) I a0) trivial) ?_
 refine seqQ_norm ?_
 refine sN ?_
 refine sN ?_
 refine rg0 hc 2 [(1, I (wr (left1 - (a0.length : Int)))), (10, .bool (decide ((wr (left1 - (a0.length : Int))) < 0)))] [] ?_
 refine seqQ_norm ?_
 rcases itesome h with ⟨hb_1, h⟩ | ⟨hb_1, h⟩
 ·refine cT ((decide ((wr (left1 - (a0.length : Int))) < 0))) hb_1 ?_
  refine sN ?_
  refine rg0 hc 1 [(4, I (-1))] [] ?_
  refine seqQ_norm ?_
  refine Wp.retN (by kernel_rfl) ?_
  refine seqQ_ret ?_
  obtain rfl := Option.some.inj h
  exact RetQ.ret (fl := [true]) (by kernel_rfl)
 ·refine cF ((decide ((wr (left1 - (a0.length : Int))) < 0))) hb_1 ?_
  refine Wp.skipN (by kernel_rfl) ?_
  refine seqQ_norm ?_
  refine sN ?_
  refine rg0 hc 2 [(4, I (wr (left1 - (a0.length : Int))))] [] ?_
  refine seqQ_norm ?_
  refine Wp.retN (by kernel_rfl) ?_
  obtain rfl := Option.some.inj h
  exact RetQ.ret (fl := [true]) (by kernel_rfl)
def laws_szTermS_F1 (c : Ctx) : (Int) ⊕ (Int) → Exit → AState → Prop
 | .inl left_8 => Into c (.exit 0) (mkS [(1, I left_8)] [])
 | .inr r => RetE TIx Try.f32 [] (I r)
mutual
def laws_szTerm (p : GTerm × Int) : Option (Int) :=
 match p with
 | (a0, left1) =>
  (laws_szIntS (a0.fType, left1)) >>= fun r_1_3 =>
  if (decide (r_1_3 < 0)) = true then
   some (-1)
  else
   (laws_szTermS (a0.fKids, r_1_3)) >>= fun r_4_3 =>
   if (decide (r_4_3 < 0)) = true then
    some (-1)
   else
    some r_4_3
 partial_fixpoint
def laws_szTermS (p : (List GTerm) × Int) : Option (Int) :=
 match p with
 | (a0, left1) =>
  if (decide ((wr (left1 - (a0.length : Int))) < 0)) = true then
   some (-1)
  else
   (laws_szTermS_l0 (a0, (wr (left1 - (a0.length : Int))), 0)) >>= fun fl => match fl with
   | .inl left_8 =>
    some left_8
   | .inr r =>
    some r
 partial_fixpoint
def laws_szTermS_l0 (p : (List GTerm) × Int × Int) : Option ((Int) ⊕ (Int)) :=
 match p with
 | (a0, left_4, i_5) =>
  if (decide (i_5 < (a0.length : Int))) = true then
   (idx a0 i_5) >>= fun e_7_2 =>
   (laws_szTerm (e_7_2, left_4)) >>= fun r_7_5 =>
   if (decide (r_7_5 < 0)) = true then
    some (.inr (-1))
   else
    laws_szTermS_l0 (a0, r_7_5, (wr (i_5 + 1)))
  else
   some (.inl left_4)
 partial_fixpoint
end
def M_laws_szTerm (p : GTerm × Int) (r : Int) : Prop :=
 match p with
 | (a0, left1) => FnSound Try.prog 9 [aTerm a0, I left1] (I r) []
def M_laws_szTermS (p : (List GTerm) × Int) (r : Int) : Prop :=
 match p with
 | (a0, left1) => FnSound Try.prog 32 [.sl (List.map GTerm_S a0), I left1] (I r) []
def M_laws_szTermS_l0 (p : (List GTerm) × Int × Int) (fl : (Int) ⊕ (Int)) : Prop :=
 match p with
 | (a0, left_4, i_5) => ∀ c : Ctx, c.nt = 27 → WpL Try.prog c (cl (cl (cr (cl (cr (cr (cr B32))))))) (laws_szTermS_F1 c fl) (mkS [(0, .sl (List.map GTerm_S a0)), (1, I left_4), (5, I i_5)] [])
theorem laws_szTerm_all : (∀ p r, laws_szTerm p = some r → M_laws_szTerm p r) ∧ (∀ p r, laws_szTermS p = some r → M_laws_szTermS p r) ∧ (∀ p r, laws_szTermS_l0 p = some r → M_laws_szTermS_l0 p r) := by
 refine laws_szTerm.mutual_partial_correctness M_laws_szTerm M_laws_szTermS M_laws_szTermS_l0 ?_ ?_ ?_
 ·rintro laws_szTermS_f laws_szTermS_ih ⟨a0, left1⟩ r h
  show FnSound Try.prog 9 [aTerm a0, I left1] (I r) []
  refine FnSound.body0 tiok (fn := Try.f9) (code := B9) (by kernel_rfl) (by kernel_rfl) (by kernel_rfl) (by kernel_rfl) (nt := 18) (by kernel_rfl) (by kernel_rfl) (T := [(0, aTerm a0), (1, I left1)]) (O := []) (by kernel_rfl) (by kernel_rfl) (fun c hc => ?_)
  refine sN ?_
  refine rg hc none [some (.new 1), oN] [(1, I left1), (2, .ra 1 0)] [(1, bTerm a0)] trivial ?_
  refine seqQ_norm ?_
  refine sN ?_
  obtain ⟨r_1_3, hr_1_3, h⟩ := bsome h
  refine rg hc none [oN, oN, oN, oc (I r_1_3), oN] [(1, I r_1_3), (2, .ra 1 0)] [(1, bTerm a0)] (ai (laws_szIntS_s _ _ hr_1_3) (ai bod_30 (ai (oi (I r_1_3)) trivial))) ?_
  refine seqQ_norm ?_
  refine sN ?_
  refine sN ?_
  refine rg0 hc 2 [(1, I r_1_3), (2, .ra 1 0), (10, .bool (decide (r_1_3 < 0)))] [(1, bTerm a0)] ?_
  refine seqQ_norm ?_
  rcases itesome h with ⟨hb_1, h⟩ | ⟨hb_1, h⟩
  ·refine cT ((decide (r_1_3 < 0))) hb_1 ?_
   refine sN ?_
   refine rg0 hc 1 [(4, I (-1))] [] ?_
   refine seqQ_norm ?_
   refine Wp.retN (by kernel_rfl) ?_
   refine seqQ_ret ?_
   obtain rfl := Option.some.inj h
   exact RetQ.ret (fl := [true]) (by kernel_rfl)
  ·refine cF ((decide (r_1_3 < 0))) hb_1 ?_
   refine Wp.skipN (by kernel_rfl) ?_
   refine seqQ_norm ?_
   refine sN ?_
   obtain ⟨r_4_3, hr_4_3, h⟩ := bsome h
   refine rg hc none [oN, oN, oN, oc (I r_4_3), oN] [(1, I r_4_3)] [] (ai (laws_szTermS_ih _ _ hr_4_3) (ai bod_32 (ai (oi (I r_4_3)) trivial))) ?_
   refine seqQ_norm ?_
   refine sN ?_
   refine sN ?_
   refine rg0 hc 2 [(1, I r_4_3), (16, .bool (decide (r_4_3 < 0)))] [] ?_
   refine seqQ_norm ?_
   rcases itesome h with ⟨hb_2, h⟩ | ⟨hb_2, h⟩
   ·refine cT ((decide (r_4_3 < 0))) hb_2 ?_
    refine sN ?_
    refine rg0 hc 1 [(4, I (-1))] [] ?_
    refine seqQ_norm ?_
    refine Wp.retN (by kernel_rfl) ?_
    refine seqQ_ret ?_
    obtain rfl := Option.some.inj h
    exact RetQ.ret (fl := [true]) (by kernel_rfl)
   ·refine cF ((decide (r_4_3 < 0))) hb_2 ?_
    refine Wp.skipN (by kernel_rfl) ?_
    refine seqQ_norm ?_
    refine sN ?_
    refine rg0 hc 2 [(4, I r_4_3)] [] ?_
    refine seqQ_norm ?_
    refine Wp.retN (by kernel_rfl) ?_
    obtain rfl := Option.some.inj h
    exact RetQ.ret (fl := [true]) (by kernel_rfl)
 ·rintro laws_szTermS_l0_f laws_szTermS_l0_ih ⟨a0, left1⟩ r h
  show FnSound Try.prog 32 [.sl (List.map GTerm_S a0), I left1] (I r) []
  refine FnSound.body0 tiok (fn := Try.f32) (code := B32) (by kernel_rfl) (by kernel_rfl) (by kernel_rfl) (by kernel_rfl) (nt := 27) (by kernel_rfl) (by kernel_rfl) (T := [(0, .sl (List.map GTerm_S a0)), (1, I left1)]) (O := []) (by kernel_rfl) (by kernel_rfl) (fun c hc => ?_)
  refine sN ?_
  refine rg0 hc 1 [(0, .sl (List.map GTerm_S a0)), (1, I left1)] [] ?_
  refine seqQ_norm ?_
  refine sN ?_
  refine rg hc none [oN, oN, some (.eqv (.no) ⟨[(8, I (a0.length : Int))], [], []⟩), oN, oN] [(0, .sl (List.map GTerm_S a0)), (1, I (wr (left1 - (a0.length : Int))))] [] (ai (lenT (d := 8) GTerm_S a0) trivial) ?_
  refine seqQ_norm ?_
  refine sN ?_
  refine sN ?_
  refine rg0 hc 2 [(0, .sl (List.map GTerm_S a0)), (1, I (wr (left1 - (a0.length : Int)))), (11, .bool (decide ((wr (left1 - (a0.length : Int))) < 0)))] [] ?_
  refine seqQ_norm ?_
  rcases itesome h with ⟨hb_1, h⟩ | ⟨hb_1, h⟩
  ·refine cT ((decide ((wr (left1 - (a0.length : Int))) < 0))) hb_1 ?_
   refine sN ?_
   refine rg0 hc 1 [(4, I (-1))] [] ?_
   refine seqQ_norm ?_
   refine Wp.retN (by kernel_rfl) ?_
   refine seqQ_ret ?_
   obtain rfl := Option.some.inj h
   exact RetQ.ret (fl := [true]) (by kernel_rfl)
  ·refine cF ((decide ((wr (left1 - (a0.length : Int))) < 0))) hb_1 ?_
   refine Wp.skipN (by kernel_rfl) ?_
   refine seqQ_norm ?_
   refine sN ?_
   refine sN ?_
   refine rg0 hc 1 [(0, .sl (List.map GTerm_S a0)), (1, I (wr (left1 - (a0.length : Int)))), (5, I 0)] [] ?_
   refine seqQ_norm ?_
   refine Wp.blockN (i := 0) (by kernel_rfl) ?_
   obtain ⟨fl, hl_9, h⟩ := bsome h
   have hL := laws_szTermS_l0_ih _ _ hl_9 c hc
   refine Wp.loopN (by kernel_rfl) ?_
   rcases fl with left_8 | r
   ·refine WpL.into (e := (.exit 0)) (mkS [(1, I left_8)] []) hL ?_
    refine blockQ_hit ?_
    refine seqQ_norm ?_
    refine sN ?_
    refine rg0 hc 2 [(4, I left_8)] [] ?_
    refine seqQ_norm ?_
    refine Wp.retN (by kernel_rfl) ?_
    obtain rfl := Option.some.inj h
    exact RetQ.ret (fl := [true]) (by kernel_rfl)
   ·refine WpL.mono hL ?_
    rintro _ _ ⟨rfl, hfin⟩
    refine blockQ_ret ?_
    refine seqQ_ret ?_
    obtain rfl := Option.some.inj h
    exact ⟨.inl rfl, hfin⟩
 ·rintro laws_szTerm_f laws_szTermS_l0_f laws_szTerm_ih laws_szTermS_l0_ih ⟨a0, left_4, i_5⟩ r h
  intro c hc
  show WpL Try.prog c (cl (cl (cr (cl (cr (cr (cr B32))))))) (laws_szTermS_F1 c r) (mkS [(0, .sl (List.map GTerm_S a0)), (1, I left_4), (5, I i_5)] [])
  refine WpL.step ?_
  refine sN ?_
  refine sN ?_
  refine rg hc none [oN, oN, some (.eqv (.no) ⟨[(14, I (a0.length : Int))], [], []⟩), oN] [(0, .sl (List.map GTerm_S a0)), (1, I left_4), (5, I i_5), (15, .bool (decide (i_5 < (a0.length : Int))))] [] (ai (lenT (d := 14) GTerm_S a0) trivial) ?_
  refine seqQ_norm ?_
  rcases itesome h with ⟨hb_6, h⟩ | ⟨hb_6, h⟩
  ·refine cT ((decide (i_5 < (a0.length : Int)))) hb_6 ?_
   refine Wp.skipN (by kernel_rfl) ?_
   refine seqQ_norm ?_
   refine sN ?_
   refine Wp.blockN (i := 1) (by kernel_rfl) ?_
   refine sN ?_
   obtain ⟨e_7_2, hi_7_2, h⟩ := bsome h
   obtain ⟨r_7_5, hr_7_5, h⟩ := bsome h
   refine rg hc none [oN, oN, some (.el (aTerm e_7_2)), oN, oN, oc (I r_7_5), oN] [(0, .sl (List.map GTerm_S a0)), (1, I r_7_5), (5, I i_5)] [] (ai (idx_sl (enc := GTerm_S) (x := aTerm e_7_2) hi_7_2 (eq_GTerm_S e_7_2)) (ai (laws_szTerm_ih _ _ hr_7_5) (ai bod_9 (ai (oi (I r_7_5)) trivial)))) ?_
   refine seqQ_norm ?_
   refine sN ?_
   refine rg0 hc 2 [(0, .sl (List.map GTerm_S a0)), (1, I r_7_5), (5, I i_5), (25, .bool (decide (r_7_5 < 0)))] [] ?_
   refine seqQ_norm ?_
   rcases itesome h with ⟨hb_7, h⟩ | ⟨hb_7, h⟩
   ·refine cT ((decide (r_7_5 < 0))) hb_7 ?_
    refine sN ?_
    refine rg0 hc 1 [(4, I (-1))] [] ?_
    refine seqQ_norm ?_
    refine Wp.retN (by kernel_rfl) ?_
    refine blockQ_ret ?_
    refine seqQ_ret ?_
    refine loopQ_ret ?_
    obtain rfl := Option.some.inj h
    exact RetE.ret (fl := [true]) (by kernel_rfl)
   ·refine cF ((decide (r_7_5 < 0))) hb_7 ?_
    refine Wp.skipN (by kernel_rfl) ?_
    refine blockQ_norm ?_
    refine seqQ_norm ?_
    refine rg0 hc 3 [(0, .sl (List.map GTerm_S a0)), (1, I r_7_5), (5, I (wr (i_5 + 1)))] [] ?_
    refine loopQ_norm ?_
    exact (laws_szTermS_l0_ih _ _ h c hc)
  ·refine cF ((decide (i_5 < (a0.length : Int)))) hb_6 ?_
   refine Wp.exitN (i := 0) (by kernel_rfl) ?_
   refine seqQ_exit ?_
   refine loopQ_exit ?_
   obtain rfl := Option.some.inj h
   exact Into.view (fun a w hv => SRx.renL [] hv (by kernel_rfl) (by kernel_rfl) (by kernel_rfl))
theorem laws_szTerm_s : ∀ p r, laws_szTerm p = some r → M_laws_szTerm p r := laws_szTerm_all.1
theorem laws_szTermS_s : ∀ p r, laws_szTermS p = some r → M_laws_szTermS p r := laws_szTerm_all.2.1
theorem laws_szTermS_l0_s : ∀ p r, laws_szTermS_l0 p = some r → M_laws_szTermS_l0 p r := laws_szTerm_all.2.2
def laws_toIntS_F1 (c : Ctx) : (List Int) → Exit → AState → Prop
 | out_5 => Into c (.exit 0) (mkS [(3, .rs 1)] [(1, .arr (List.map I out_5))])
def laws_toIntS_l0 (p : (List Int) × (List Int) × Int) : Option ((List Int)) :=
 match p with
 | (a0, out_2, i_3) =>
  if (decide (i_3 < (a0.length : Int))) = true then
   (idx a0 i_3) >>= fun e_5_4 =>
   (idx out_2 i_3) >>= fun e_5_6 =>
   laws_toIntS_l0 (a0, (List.set out_2 (Int.toNat i_3) e_5_4), (wr (i_3 + 1)))
  else
   some (out_2)
 partial_fixpoint
def M_laws_toIntS_l0 (p : (List Int) × (List Int) × Int) (fl : (List Int)) : Prop :=
 match p with
 | (a0, out_2, i_3) => ∀ c : Ctx, c.nt = 22 → WpL Try.prog c (cl (cl (cr (cl (cr (cr B12)))))) (laws_toIntS_F1 c fl) (mkS [(0, sI a0), (3, .rs 1), (4, I i_3)] [(1, .arr (List.map I out_2))])
theorem laws_toIntS_l0_s : ∀ p r, laws_toIntS_l0 p = some r → M_laws_toIntS_l0 p r := by
 refine laws_toIntS_l0.partial_correctness M_laws_toIntS_l0 ?_
 rintro laws_toIntS_l0_f laws_toIntS_l0_ih ⟨a0, out_2, i_3⟩ r h
 intro c hc
 show WpL Try.prog c (cl (cl (cr (cl (cr (cr B12)))))) (laws_toIntS_F1 c r) (mkS [(0, sI a0), (3, .rs 1), (4, I i_3)] [(1, .arr (List.map I out_2))])
 refine WpL.step ?_
 refine sN ?_
 refine sN ?_
 refine rg hc none [oN, oN, some (.eqv (.no) ⟨[(10, I (a0.length : Int))], [], []⟩), oN] [(0, sI a0), (3, .rs 1), (4, I i_3), (11, .bool (decide (i_3 < (a0.length : Int))))] [(1, .arr (List.map I out_2))] (ai (lenT (d := 10) I a0) trivial) ?_
 refine seqQ_norm ?_
 rcases itesome h with ⟨hb_4, h⟩ | ⟨hb_4, h⟩
 ·refine cT ((decide (i_3 < (a0.length : Int)))) hb_4 ?_
  refine Wp.skipN (by kernel_rfl) ?_
  refine seqQ_norm ?_
  refine sN ?_
  refine Wp.blockN (i := 1) (by kernel_rfl) ?_
  obtain ⟨e_5_4, hi_5_4, h⟩ := bsome h
  obtain ⟨e_5_6, hi_5_6, h⟩ := bsome h
  refine rg hc none [oN, oN, oN, oN, some (.el (I e_5_4)), oN, oN, some (.eqv (.mk 0 true) ⟨[], [(1, some (.arr (List.map I (List.set out_2 (Int.toNat i_3) e_5_4))))], []⟩)] [(0, sI a0), (3, .rs 1), (4, I i_3)] [(1, .arr (List.map I (List.set out_2 (Int.toNat i_3) e_5_4)))] (ai (ix hi_5_4) (ai (idx_own (enc := I) hi_5_6) (ai (congrArg (fun z => (⟨[], [(1, some (.arr z))], []⟩ : Wr)) (set_row (enc := I) (i := Int.toNat i_3) (l := out_2) (v := e_5_4) (x := I e_5_4) (eq_I e_5_4))) (ai (own_set (enc := I) (sz := 1) sz_I hi_5_6) trivial)))) ?_
  refine blockQ_norm ?_
  refine seqQ_norm ?_
  refine rg0 hc 3 [(0, sI a0), (3, .rs 1), (4, I (wr (i_3 + 1)))] [(1, .arr (List.map I (List.set out_2 (Int.toNat i_3) e_5_4)))] ?_
  refine loopQ_norm ?_
  exact (laws_toIntS_l0_ih _ _ h c hc)
 ·refine cF ((decide (i_3 < (a0.length : Int)))) hb_4 ?_
  refine Wp.exitN (i := 0) (by kernel_rfl) ?_
  refine seqQ_exit ?_
  refine loopQ_exit ?_
  obtain rfl := Option.some.inj h
  exact Into.view (fun a w hv => SRx.renL [] hv (by kernel_rfl) (by kernel_rfl) (by kernel_rfl))
def laws_toIntS (a0 : (List Int)) : Option ((List Int)) :=
  (chk (0 ≤ (a0.length : Int) ∧ (Int.toNat (a0.length : Int)) * 8 ≤ 140737488355328)) >>= fun _ =>
  (laws_toIntS_l0 (a0, (List.replicate (Int.toNat (a0.length : Int)) 0), 0)) >>= fun out_5 =>
  some out_5
def M_laws_toIntS (a0 : (List Int)) (r : (List Int)) : Prop :=
 FnSound Try.prog 12 [sI a0] (.osl (List.map I r)) []
theorem laws_toIntS_s : ∀ p r, laws_toIntS p = some r → M_laws_toIntS p r := by
 rintro a0 r h
 unfold laws_toIntS at h
 show FnSound Try.prog 12 [sI a0] (.osl (List.map I r)) []
 refine FnSound.body0 tiok (fn := Try.f12) (code := B12) (by kernel_rfl) (by kernel_rfl) (by kernel_rfl) (by kernel_rfl) (nt := 22) (by kernel_rfl) (by kernel_rfl) (T := [(0, sI a0)]) (O := []) (by kernel_rfl) (by kernel_rfl) (fun c hc => ?_)
 refine sN ?_
 refine rg0 hc 1 [(0, sI a0)] [] ?_
 refine seqQ_norm ?_
 refine sN ?_
 obtain ⟨_, hk_1_2, h⟩ := bsome h
 refine rg hc none [oN, some (.eqv (.no) ⟨[(6, I (a0.length : Int))], [], []⟩), some (.eqv (.mk 1 true) ⟨[(7, .rs 1)], [(1, some (.arr (List.map I (List.replicate (Int.toNat (a0.length : Int)) 0))))], [1]⟩), oN] [(0, sI a0), (3, .rs 1)] [(1, .arr (List.map I (List.replicate (Int.toNat (a0.length : Int)) 0)))] (ai (lenT (d := 6) I a0) (ai (congrArg (fun z => (⟨[(7, .rs 1)], [(1, some (.arr z))], [1]⟩ : Wr)) (rep_row (enc := I) (n := Int.toNat (a0.length : Int)) (x := I 0) (eq_I 0))) (ai (And.intro (Eq.refl (a0.length : Int)) (chk_of hk_1_2)) trivial))) ?_
 refine seqQ_norm ?_
 refine sN ?_
 refine sN ?_
 refine rg0 hc 1 [(0, sI a0), (3, .rs 1), (4, I 0)] [(1, .arr (List.map I (List.replicate (Int.toNat (a0.length : Int)) 0)))] ?_
 refine seqQ_norm ?_
 refine Wp.blockN (i := 0) (by kernel_rfl) ?_
 obtain ⟨out_5, hl_6, h⟩ := bsome h
 have hL := laws_toIntS_l0_s _ _ hl_6 c hc
 refine Wp.loopN (by kernel_rfl) ?_
 ·refine WpL.into (e := (.exit 0)) (mkS [(3, .rs 1)] [(1, .arr (List.map I out_5))]) hL ?_
  refine blockQ_hit ?_
  refine seqQ_norm ?_
  refine sN ?_
  refine rg0 hc 2 [(2, .rs 1)] [(1, .arr (List.map I out_5))] ?_
  refine seqQ_norm ?_
  refine Wp.retN (by kernel_rfl) ?_
  obtain rfl := Option.some.inj h
  exact RetQ.ret (fl := [true]) (by kernel_rfl)
def laws_toTermS_F1 (c : Ctx) : (List GTerm) → Exit → AState → Prop
 | out_5 => Into c (.exit 0) (mkS [(3, .rs 1)] [(1, .arr (List.map GTerm_O out_5))])
mutual
def laws_toTerm (a0 : GTerm) : Option (GTerm) :=
  (laws_toIntS a0.fType) >>= fun r_4_2 =>
  (laws_toTermS a0.fKids) >>= fun r_5_2 =>
  some (GTerm.mk a0.fOp a0.fN r_4_2 r_5_2)
 partial_fixpoint
def laws_toTermS (a0 : (List GTerm)) : Option ((List GTerm)) :=
  (chk (0 ≤ (a0.length : Int) ∧ (Int.toNat (a0.length : Int)) * 64 ≤ 140737488355328)) >>= fun _ =>
  (laws_toTermS_l0 (a0, (List.replicate (Int.toNat (a0.length : Int)) (GTerm.mk 0 0 [] [])), 0)) >>= fun out_5 =>
  some out_5
 partial_fixpoint
def laws_toTermS_l0 (p : (List GTerm) × (List GTerm) × Int) : Option ((List GTerm)) :=
 match p with
 | (a0, out_2, i_3) =>
  if (decide (i_3 < (a0.length : Int))) = true then
   (idx a0 i_3) >>= fun e_5_4 =>
   (laws_toTerm e_5_4) >>= fun r_5_6 =>
   (idx out_2 i_3) >>= fun e_5_7 =>
   laws_toTermS_l0 (a0, (List.set out_2 (Int.toNat i_3) r_5_6), (wr (i_3 + 1)))
  else
   some (out_2)
 partial_fixpoint
end
def M_laws_toTerm (a0 : GTerm) (r : GTerm) : Prop :=
 FnSound Try.prog 13 [aTerm a0] (qTerm r) []
def M_laws_toTermS (a0 : (List GTerm)) (r : (List GTerm)) : Prop :=
 FnSound Try.prog 38 [.sl (List.map GTerm_S a0)] (.osl (List.map GTerm_O r)) []
def M_laws_toTermS_l0 (p : (List GTerm) × (List GTerm) × Int) (fl : (List GTerm)) : Prop :=
 match p with
 | (a0, out_2, i_3) => ∀ c : Ctx, c.nt = 23 → WpL Try.prog c (cl (cl (cr (cl (cr (cr B38)))))) (laws_toTermS_F1 c fl) (mkS [(0, .sl (List.map GTerm_S a0)), (3, .rs 1), (4, I i_3)] [(1, .arr (List.map GTerm_O out_2))])
theorem laws_toTerm_all : (∀ p r, laws_toTerm p = some r → M_laws_toTerm p r) ∧ (∀ p r, laws_toTermS p = some r → M_laws_toTermS p r) ∧ (∀ p r, laws_toTermS_l0 p = some r → M_laws_toTermS_l0 p r) := by
 refine laws_toTerm.mutual_partial_correctness M_laws_toTerm M_laws_toTermS M_laws_toTermS_l0 ?_ ?_ ?_
 ·rintro laws_toTermS_f laws_toTermS_ih a0 r h
  show FnSound Try.prog 13 [aTerm a0] (qTerm r) []
  refine FnSound.body0 tiok (fn := Try.f13) (code := B13) (by kernel_rfl) (by kernel_rfl) (by kernel_rfl) (by kernel_rfl) (nt := 19) (by kernel_rfl) (by kernel_rfl) (T := [(0, aTerm a0)]) (O := []) (by kernel_rfl) (by kernel_rfl) (fun c hc => ?_)
  refine sN ?_
  refine rg hc none [some (.new 1), some (.new 2)] [(1, .ra 1 0), (2, .ra 2 0)] [(1, bTerm a0), (2, .box [I 0, I 0, .nils, .nils])] trivial ?_
  refine seqQ_norm ?_
  refine sN ?_
  refine rg hc none [some (.new 3)] [(1, .ra 1 0), (2, .ra 2 0), (3, .ra 3 0)] [(1, bTerm a0), (2, .box [I 0, I 0, .nils, .nils]), (3, .box [I 0, I 0, .nils, .nils])] trivial ?_
  refine seqQ_norm ?_
  refine sN ?_
  refine rg0 hc 4 [(1, .ra 1 0), (2, .ra 2 0), (3, .ra 3 0)] [(1, bTerm a0), (2, .box [I 0, I 0, .nils, .nils]), (3, .box [I a0.fOp, I 0, .nils, .nils])] ?_
  refine seqQ_norm ?_
  refine sN ?_
  refine rg0 hc 4 [(1, .ra 1 0), (2, .ra 2 0), (3, .ra 3 0)] [(1, bTerm a0), (2, .box [I 0, I 0, .nils, .nils]), (3, .box [I a0.fOp, I a0.fN, .nils, .nils])] ?_
  refine seqQ_norm ?_
  refine sN ?_
  obtain ⟨r_4_2, hr_4_2, h⟩ := bsome h
  refine rg hc none [oN, oN, some (.call (.osl (List.map I r_4_2)) [] 4), oN, oN] [(1, .ra 1 0), (2, .ra 2 0), (3, .ra 3 0)] [(1, bTerm a0), (2, .box [I 0, I 0, .nils, .nils]), (3, .box [I a0.fOp, I a0.fN, .rs 4, .nils]), (4, .arr (List.map I r_4_2))] (ai (laws_toIntS_s _ _ hr_4_2) (ai bod_12 (ai (oi (.osl (List.map I r_4_2))) trivial))) ?_
  refine seqQ_norm ?_
  refine sN ?_
  obtain ⟨r_5_2, hr_5_2, h⟩ := bsome h
  refine rg hc none [oN, oN, some (.call (.osl (List.map GTerm_O r_5_2)) [] 5), oN, oN] [(2, .ra 2 0), (3, .ra 3 0)] [(2, .box [I 0, I 0, .nils, .nils]), (3, .box [I a0.fOp, I a0.fN, .rs 4, .rs 5]), (4, .arr (List.map I r_4_2)), (5, .arr (List.map GTerm_O r_5_2))] (ai (laws_toTermS_ih _ _ hr_5_2) (ai bod_38 (ai (oi (.osl (List.map GTerm_O r_5_2))) trivial))) ?_
  refine seqQ_norm ?_
  refine sN ?_
  refine rg0 hc 2 [(2, .ra 2 0)] [(2, .box [I a0.fOp, I a0.fN, .rs 4, .rs 5]), (4, .arr (List.map I r_4_2)), (5, .arr (List.map GTerm_O r_5_2))] ?_
  refine seqQ_norm ?_
  refine Wp.retN (by kernel_rfl) ?_
  obtain rfl := Option.some.inj h
  exact RetQ.ret (fl := [true]) (by kernel_rfl)
 ·rintro laws_toTermS_l0_f laws_toTermS_l0_ih a0 r h
  show FnSound Try.prog 38 [.sl (List.map GTerm_S a0)] (.osl (List.map GTerm_O r)) []
  refine FnSound.body0 tiok (fn := Try.f38) (code := B38) (by kernel_rfl) (by kernel_rfl) (by kernel_rfl) (by kernel_rfl) (nt := 23) (by kernel_rfl) (by kernel_rfl) (T := [(0, .sl (List.map GTerm_S a0))]) (O := []) (by kernel_rfl) (by kernel_rfl) (fun c hc => ?_)
  refine sN ?_
  refine rg0 hc 1 [(0, .sl (List.map GTerm_S a0))] [] ?_
  refine seqQ_norm ?_
  refine sN ?_
  obtain ⟨_, hk_1_2, h⟩ := bsome h
  refine rg hc none [oN, some (.eqv (.no) ⟨[(6, I (a0.length : Int))], [], []⟩), some (.eqv (.mk 1 true) ⟨[(7, .rs 1)], [(1, some (.arr (List.map GTerm_O (List.replicate (Int.toNat (a0.length : Int)) (GTerm.mk 0 0 [] [])))))], [1]⟩), oN] [(0, .sl (List.map GTerm_S a0)), (3, .rs 1)] [(1, .arr (List.map GTerm_O (List.replicate (Int.toNat (a0.length : Int)) (GTerm.mk 0 0 [] []))))] (ai (lenT (d := 6) GTerm_S a0) (ai (congrArg (fun z => (⟨[(7, .rs 1)], [(1, some (.arr z))], [1]⟩ : Wr)) (rep_row (enc := GTerm_O) (n := Int.toNat (a0.length : Int)) (x := AV.agg [I ((GTerm.mk 0 0 [] []).fOp), I ((GTerm.mk 0 0 [] []).fN), .osl (List.map I ((GTerm.mk 0 0 [] []).fType)), .osl (List.map GTerm_O ((GTerm.mk 0 0 [] []).fKids))]) (eq_GTerm_O (GTerm.mk 0 0 [] [])))) (ai (And.intro (Eq.refl (a0.length : Int)) (chk_of hk_1_2)) trivial))) ?_
  refine seqQ_norm ?_
  refine sN ?_
  refine sN ?_
  refine rg0 hc 1 [(0, .sl (List.map GTerm_S a0)), (3, .rs 1), (4, I 0)] [(1, .arr (List.map GTerm_O (List.replicate (Int.toNat (a0.length : Int)) (GTerm.mk 0 0 [] []))))] ?_
  refine seqQ_norm ?_
  refine Wp.blockN (i := 0) (by kernel_rfl) ?_
  obtain ⟨out_5, hl_6, h⟩ := bsome h
  have hL := laws_toTermS_l0_ih _ _ hl_6 c hc
  refine Wp.loopN (by kernel_rfl) ?_
  ·refine WpL.into (e := (.exit 0)) (mkS [(3, .rs 1)] [(1, .arr (List.map GTerm_O out_5))]) hL ?_
   refine blockQ_hit ?_
   refine seqQ_norm ?_
   refine sN ?_
   refine rg0 hc 2 [(2, .rs 1)] [(1, .arr (List.map GTerm_O out_5))] ?_
   refine seqQ_norm ?_
   refine Wp.retN (by kernel_rfl) ?_
   obtain rfl := Option.some.inj h
   exact RetQ.ret (fl := [true]) (by kernel_rfl)
 ·rintro laws_toTerm_f laws_toTermS_l0_f laws_toTerm_ih laws_toTermS_l0_ih ⟨a0, out_2, i_3⟩ r h
  intro c hc
  show WpL Try.prog c (cl (cl (cr (cl (cr (cr B38)))))) (laws_toTermS_F1 c r) (mkS [(0, .sl (List.map GTerm_S a0)), (3, .rs 1), (4, I i_3)] [(1, .arr (List.map GTerm_O out_2))])
  refine WpL.step ?_
  refine sN ?_
  refine sN ?_
  refine rg hc none [oN, oN, some (.eqv (.no) ⟨[(10, I (a0.length : Int))], [], []⟩), oN] [(0, .sl (List.map GTerm_S a0)), (3, .rs 1), (4, I i_3), (11, .bool (decide (i_3 < (a0.length : Int))))] [(1, .arr (List.map GTerm_O out_2))] (ai (lenT (d := 10) GTerm_S a0) trivial) ?_
  refine seqQ_norm ?_
  rcases itesome h with ⟨hb_4, h⟩ | ⟨hb_4, h⟩
  ·refine cT ((decide (i_3 < (a0.length : Int)))) hb_4 ?_
   refine Wp.skipN (by kernel_rfl) ?_
   refine seqQ_norm ?_
   refine sN ?_
   refine Wp.blockN (i := 1) (by kernel_rfl) ?_
   obtain ⟨e_5_4, hi_5_4, h⟩ := bsome h
   obtain ⟨r_5_6, hr_5_6, h⟩ := bsome h
   obtain ⟨e_5_7, hi_5_7, h⟩ := bsome h
   refine rg hc none [oN, oN, oN, oN, some (.el (aTerm e_5_4)), oN, some (.call (qTerm r_5_6) [] 4), oN, some (.eqv (.mk 0 true) ⟨[], [(1, some (.arr (List.map GTerm_O (List.set out_2 (Int.toNat i_3) r_5_6)))), (4, none), (5, none)], []⟩)] [(0, .sl (List.map GTerm_S a0)), (3, .rs 1), (4, I i_3)] [(1, .arr (List.map GTerm_O (List.set out_2 (Int.toNat i_3) r_5_6)))] (ai (idx_sl (enc := GTerm_S) (x := aTerm e_5_4) hi_5_4 (eq_GTerm_S e_5_4)) (ai (laws_toTerm_ih _ _ hr_5_6) (ai bod_13 (ai (oi (qTerm r_5_6)) (ai (idx_own (enc := GTerm_O) hi_5_7) (ai (congrArg (fun z => (⟨[], [(1, some (.arr z)), (4, none), (5, none)], []⟩ : Wr)) (set_row (enc := GTerm_O) (i := Int.toNat i_3) (l := out_2) (v := r_5_6) (x := AV.agg [I r_5_6.fOp, I r_5_6.fN, AV.osl (List.map I r_5_6.fType), AV.osl (List.map GTerm_O r_5_6.fKids)]) (eq_GTerm_O r_5_6))) (ai (own_set (enc := GTerm_O) (sz := 4) sz_GTerm_O hi_5_7) trivial))))))) ?_
   refine blockQ_norm ?_
   refine seqQ_norm ?_
   refine rg0 hc 3 [(0, .sl (List.map GTerm_S a0)), (3, .rs 1), (4, I (wr (i_3 + 1)))] [(1, .arr (List.map GTerm_O (List.set out_2 (Int.toNat i_3) r_5_6)))] ?_
   refine loopQ_norm ?_
   exact (laws_toTermS_l0_ih _ _ h c hc)
  ·refine cF ((decide (i_3 < (a0.length : Int)))) hb_4 ?_
   refine Wp.exitN (i := 0) (by kernel_rfl) ?_
   refine seqQ_exit ?_
   refine loopQ_exit ?_
   obtain rfl := Option.some.inj h
   exact Into.view (fun a w hv => SRx.renL [] hv (by kernel_rfl) (by kernel_rfl) (by kernel_rfl))
theorem laws_toTerm_s : ∀ p r, laws_toTerm p = some r → M_laws_toTerm p r := laws_toTerm_all.1
theorem laws_toTermS_s : ∀ p r, laws_toTermS p = some r → M_laws_toTermS p r := laws_toTerm_all.2.1
theorem laws_toTermS_l0_s : ∀ p r, laws_toTermS_l0 p = some r → M_laws_toTermS_l0 p r := laws_toTerm_all.2.2
def spec_l2Left_F1 (c : Ctx) : Int → Exit → AState → Prop
 | left_9 => Into c (.exit 0) (mkS [(1, I left_9)] [])
mutual
def spec_l2Left (p : GTerm × Int) : Option (Int) :=
 match p with
 | (t0, left1) =>
  (spec_l2Left_l0 (t0, (wr (left1 - 1)), 0)) >>= fun left_9 =>
  some left_9
 partial_fixpoint
def spec_l2Left_l0 (p : GTerm × Int × Int) : Option (Int) :=
 match p with
 | (t0, left_4, k_5) =>
  (
   if (decide (k_5 < (t0.fKids.length : Int))) = true then
    some ((decide (left_4 ≥ 0)))
   else
    some (false)
  ) >>= fun v_6 =>
  if v_6 = true then
   (idx t0.fKids k_5) >>= fun e_5_3 =>
   (spec_l2Left (e_5_3, left_4)) >>= fun r_5_6 =>
   spec_l2Left_l0 (t0, r_5_6, (wr (k_5 + 1)))
  else
   some (left_4)
 partial_fixpoint
end
def M_spec_l2Left (p : GTerm × Int) (r : Int) : Prop :=
 match p with
 | (t0, left1) => FnSound Try.prog 97 [aTerm t0, I left1] (I r) []
def M_spec_l2Left_l0 (p : GTerm × Int × Int) (fl : Int) : Prop :=
 match p with
 | (t0, left_4, k_5) => ∀ c : Ctx, c.nt = 27 → WpL Try.prog c (cl (cl (cr (cl (cr (cr B97)))))) (spec_l2Left_F1 c fl) (mkS [(1, I left_4), (2, .ra 1 0), (5, I k_5)] [(1, bTerm t0)])
theorem spec_l2Left_all : (∀ p r, spec_l2Left p = some r → M_spec_l2Left p r) ∧ (∀ p r, spec_l2Left_l0 p = some r → M_spec_l2Left_l0 p r) := by
 refine spec_l2Left.mutual_partial_correctness M_spec_l2Left M_spec_l2Left_l0 ?_ ?_
 ·rintro spec_l2Left_l0_f spec_l2Left_l0_ih ⟨t0, left1⟩ r h
  show FnSound Try.prog 97 [aTerm t0, I left1] (I r) []
  refine FnSound.body0 tiok (fn := Try.f97) (code := B97) (by kernel_rfl) (by kernel_rfl) (by kernel_rfl) (by kernel_rfl) (nt := 27) (by kernel_rfl) (by kernel_rfl) (T := [(0, aTerm t0), (1, I left1)]) (O := []) (by kernel_rfl) (by kernel_rfl) (fun c hc => ?_)
  refine sN ?_
  refine rg hc none [some (.new 1), oN] [(1, I left1), (2, .ra 1 0)] [(1, bTerm t0)] trivial ?_
  refine seqQ_norm ?_
  refine sN ?_
  refine rg0 hc 3 [(1, I (wr (left1 - 1))), (2, .ra 1 0)] [(1, bTerm t0)] ?_
  refine seqQ_norm ?_
  refine sN ?_
  refine sN ?_
  refine rg0 hc 1 [(1, I (wr (left1 - 1))), (2, .ra 1 0), (5, I 0)] [(1, bTerm t0)] ?_
  refine seqQ_norm ?_
  refine Wp.blockN (i := 0) (by kernel_rfl) ?_
  obtain ⟨left_9, hl_10, h⟩ := bsome h
  have hL := spec_l2Left_l0_ih _ _ hl_10 c hc
  refine Wp.loopN (by kernel_rfl) ?_
  ·refine WpL.into (e := (.exit 0)) (mkS [(1, I left_9)] []) hL ?_
   refine blockQ_hit ?_
   refine seqQ_norm ?_
   refine sN ?_
   refine rg0 hc 2 [(4, I left_9)] [] ?_
   refine seqQ_norm ?_
   refine Wp.retN (by kernel_rfl) ?_
   obtain rfl := Option.some.inj h
   exact RetQ.ret (fl := [true]) (by kernel_rfl)
 ·rintro spec_l2Left_f spec_l2Left_l0_f spec_l2Left_ih spec_l2Left_l0_ih ⟨t0, left_4, k_5⟩ r h
  intro c hc
  show WpL Try.prog c (cl (cl (cr (cl (cr (cr B97)))))) (spec_l2Left_F1 c r) (mkS [(1, I left_4), (2, .ra 1 0), (5, I k_5)] [(1, bTerm t0)])
  refine WpL.step ?_
  refine sN ?_
  refine sN ?_
  obtain ⟨v_6, hj_7, h⟩ := bsome h
  refine Wp.into (x := .normal) (mkS [(1, I left_4), (2, .ra 1 0), (5, I k_5), (16, .bool v_6)] [(1, bTerm t0)]) ?_ ?_
  ·replace h := hj_7
   rcases itesome h with ⟨hb_3_0, h⟩ | ⟨hb_3_0, h⟩
   ·refine rg hc none [oN, oN, oN, some (.eqv (.no) ⟨[(11, I (t0.fKids.length : Int))], [], []⟩), oN, oN, oN, oN, oT] [(1, I left_4), (2, .ra 1 0), (5, I k_5), (16, .bool (decide (left_4 ≥ 0)))] [(1, bTerm t0)] (ai (lenT (d := 11) GTerm_S t0.fKids) (ar 3 hb_3_0 trivial)) ?_
    obtain rfl := Option.some.inj h
    exact Into.mk
   ·refine rg hc none [oN, oN, oN, some (.eqv (.no) ⟨[(11, I (t0.fKids.length : Int))], [], []⟩), oN, oN, o_, o_, oF] [(1, I left_4), (2, .ra 1 0), (5, I k_5), (16, .bool false)] [(1, bTerm t0)] (ai (lenT (d := 11) GTerm_S t0.fKids) (ar 2 (neT hb_3_0) (ai hb_3_0 trivial))) ?_
    obtain rfl := Option.some.inj h
    exact Into.mk
  ·clear hj_7
   refine seqQ_norm ?_
   rcases itesome h with ⟨hb_8, h⟩ | ⟨hb_8, h⟩
   ·refine cT v_6 hb_8 ?_
    refine Wp.skipN (by kernel_rfl) ?_
    refine seqQ_norm ?_
    refine sN ?_
    refine Wp.blockN (i := 1) (by kernel_rfl) ?_
    obtain ⟨e_5_3, hi_5_3, h⟩ := bsome h
    obtain ⟨r_5_6, hr_5_6, h⟩ := bsome h
    refine rg hc none [oN, oN, oN, some (.el (aTerm e_5_3)), oN, oN, oc (I r_5_6), oN] [(1, I r_5_6), (2, .ra 1 0), (5, I k_5)] [(1, bTerm t0)] (ai (idx_sl (enc := GTerm_S) (x := aTerm e_5_3) hi_5_3 (eq_GTerm_S e_5_3)) (ai (spec_l2Left_ih _ _ hr_5_6) (ai bod_97 (ai (oi (I r_5_6)) trivial)))) ?_
    refine blockQ_norm ?_
    refine seqQ_norm ?_
    refine rg0 hc 3 [(1, I r_5_6), (2, .ra 1 0), (5, I (wr (k_5 + 1)))] [(1, bTerm t0)] ?_
    refine loopQ_norm ?_
    exact (spec_l2Left_l0_ih _ _ h c hc)
   ·refine cF v_6 hb_8 ?_
    refine Wp.exitN (i := 0) (by kernel_rfl) ?_
    refine seqQ_exit ?_
    refine loopQ_exit ?_
    obtain rfl := Option.some.inj h
    exact Into.view (fun a w hv => SRx.renL [] hv (by kernel_rfl) (by kernel_rfl) (by kernel_rfl))
theorem spec_l2Left_s : ∀ p r, spec_l2Left p = some r → M_spec_l2Left p r := spec_l2Left_all.1
theorem spec_l2Left_l0_s : ∀ p r, spec_l2Left_l0 p = some r → M_spec_l2Left_l0 p r := spec_l2Left_all.2
def spec_l1In (p : Int × Int × Int) : Option (Bool) :=
 match p with
 | (n0, low1, high2) =>
  (
   if (decide (n0 ≥ low1)) = true then
    some ((decide (n0 ≤ high2)))
   else
    some (false)
  ) >>= fun v_1 =>
  some v_1
def M_spec_l1In (p : Int × Int × Int) (r : Bool) : Prop :=
 match p with
 | (n0, low1, high2) => FnSound Try.prog 57 [I n0, I low1, I high2] (.bool r) []
theorem spec_l1In_s : ∀ p r, spec_l1In p = some r → M_spec_l1In p r := by
 rintro ⟨n0, low1, high2⟩ r h
 unfold spec_l1In at h
 show FnSound Try.prog 57 [I n0, I low1, I high2] (.bool r) []
 refine FnSound.body0 tiok (fn := Try.f57) (code := B57) (by kernel_rfl) (by kernel_rfl) (by kernel_rfl) (by kernel_rfl) (nt := 15) (by kernel_rfl) (by kernel_rfl) (T := [(0, I n0), (1, I low1), (2, I high2)]) (O := []) (by kernel_rfl) (by kernel_rfl) (fun c hc => ?_)
 refine sN ?_
 refine rg0 hc 1 [(0, I n0), (1, I low1), (2, I high2)] [] ?_
 refine seqQ_norm ?_
 refine sN ?_
 obtain ⟨v_1, hj_2, h⟩ := bsome h
 refine Wp.into (x := .normal) (mkS [(6, .bool v_1)] []) ?_ ?_
 ·replace h := hj_2
  rcases itesome h with ⟨hb_1_0, h⟩ | ⟨hb_1_0, h⟩
  ·refine rg hc none [oN, oN, oN, oN, oN, oN, oN, oT, oN] [(6, .bool (decide (n0 ≤ high2)))] [] (ar 4 hb_1_0 trivial) ?_
   obtain rfl := Option.some.inj h
   exact Into.mk
  ·refine rg hc none [oN, oN, oN, oN, o_, o_, o_, oF, oN] [(6, .bool false)] [] (ar 3 (neT hb_1_0) (ai hb_1_0 trivial)) ?_
   obtain rfl := Option.some.inj h
   exact Into.mk
 ·clear hj_2
  refine seqQ_norm ?_
  refine Wp.retN (by kernel_rfl) ?_
  obtain rfl := Option.some.inj h
  exact RetQ.ret (fl := [true]) (by kernel_rfl)
def spec_l2Many (op0 : Int) : Option (Int) :=
  (spec_l1In (op0, 0, 12)) >>= fun r_1_1 =>
  if r_1_1 = true then
   (idx [0, 0, 2, 3, 2, 2, 1, 1, 3, 1, 2, 1, 2] op0) >>= fun e_3_2 =>
   some e_3_2
  else
   some (-1)
def M_spec_l2Many (op0 : Int) (r : Int) : Prop :=
 FnSound Try.prog 146 [I op0] (I r) []
theorem spec_l2Many_s : ∀ p r, spec_l2Many p = some r → M_spec_l2Many p r := by
 rintro op0 r h
 unfold spec_l2Many at h
 show FnSound Try.prog 146 [I op0] (I r) []
 refine FnSound.body0 tiok (fn := Try.f146) (code := B146) (by kernel_rfl) (by kernel_rfl) (by kernel_rfl) (by kernel_rfl) (nt := 10) (by kernel_rfl) (by kernel_rfl) (T := [(0, I op0)]) (O := []) (by kernel_rfl) (by kernel_rfl) (fun c hc => ?_)
 refine sN ?_
 refine rg0 hc 1 [(0, I op0)] [] ?_
 refine seqQ_norm ?_
 refine sN ?_
 refine sN ?_
 obtain ⟨r_1_1, hr_1_1, h⟩ := bsome h
 refine rg hc none [oN, oc (.bool r_1_1), oN] [(0, I op0), (5, .bool (!r_1_1))] [] (ai (spec_l1In_s _ _ hr_1_1) (ai bod_57 (ai (oi (.bool r_1_1)) trivial))) ?_
 refine seqQ_norm ?_
 rcases itesome h with ⟨hb_1, h⟩ | ⟨hb_1, h⟩
 ·refine cF (!r_1_1) (nF hb_1) ?_
  refine Wp.skipN (by kernel_rfl) ?_
  refine seqQ_norm ?_
  refine sN ?_
  obtain ⟨e_3_2, hi_3_2, h⟩ := bsome h
  refine rg hc none [some (.mk 1 true), oN, oN, some (.el (I e_3_2)), oN] [(2, I e_3_2)] [] (ai (idx_own (enc := I) hi_3_2) (ai (ix hi_3_2).2 trivial)) ?_
  refine seqQ_norm ?_
  refine Wp.retN (by kernel_rfl) ?_
  obtain rfl := Option.some.inj h
  exact RetQ.ret (fl := [true]) (by kernel_rfl)
 ·refine cT (!r_1_1) (nT hb_1) ?_
  refine sN ?_
  refine rg0 hc 1 [(2, I (-1))] [] ?_
  refine seqQ_norm ?_
  refine Wp.retN (by kernel_rfl) ?_
  refine seqQ_ret ?_
  obtain rfl := Option.some.inj h
  exact RetQ.ret (fl := [true]) (by kernel_rfl)
def spec_l2Has (op0 : Int) : Option (Bool) :=
  (
   if (op0 == 5) = true then
    some (true)
   else
    if (op0 == 8) = true then
     some (true)
    else
     if (op0 == 9) = true then
      some (true)
     else
      if (op0 == 11) = true then
       some (true)
      else
       some ((op0 == 12))
  ) >>= fun v_1 =>
  some v_1
def M_spec_l2Has (op0 : Int) (r : Bool) : Prop :=
 FnSound Try.prog 147 [I op0] (.bool r) []
theorem spec_l2Has_s : ∀ p r, spec_l2Has p = some r → M_spec_l2Has p r := by
 rintro op0 r h
 unfold spec_l2Has at h
 show FnSound Try.prog 147 [I op0] (.bool r) []
 refine FnSound.body0 tiok (fn := Try.f147) (code := B147) (by kernel_rfl) (by kernel_rfl) (by kernel_rfl) (by kernel_rfl) (nt := 21) (by kernel_rfl) (by kernel_rfl) (T := [(0, I op0)]) (O := []) (by kernel_rfl) (by kernel_rfl) (fun c hc => ?_)
 refine sN ?_
 refine rg0 hc 1 [(0, I op0)] [] ?_
 refine seqQ_norm ?_
 refine sN ?_
 obtain ⟨v_1, hj_2, h⟩ := bsome h
 refine Wp.into (x := .normal) (mkS [(2, .bool v_1)] []) ?_ ?_
 ·replace h := hj_2
  rcases itesome h with ⟨hb_1_0, h⟩ | ⟨hb_1_0, h⟩
  ·refine rg hc none [oN, oN, oN, o_, o_, oT, oN, o_, o_, oT, oN, o_, o_, oT, oN, o_, o_, oT, oN] [(2, .bool true)] [] (ar 2 (neF hb_1_0) (ai hb_1_0 (ar 2 nf (ai tt (ar 2 nf (ai tt (ar 2 nf (ai tt trivial)))))))) ?_
   obtain rfl := Option.some.inj h
   exact Into.mk
  ·rcases itesome h with ⟨hb_1_1, h⟩ | ⟨hb_1_1, h⟩
   ·refine rg hc none [oN, oN, oN, oN, oN, oF, oN, o_, o_, oT, oN, o_, o_, oT, oN, o_, o_, oT, oN] [(2, .bool true)] [] (ar 3 hb_1_0 (ar 2 (neF hb_1_1) (ai hb_1_1 (ar 2 nf (ai tt (ar 2 nf (ai tt trivial))))))) ?_
    obtain rfl := Option.some.inj h
    exact Into.mk
   ·rcases itesome h with ⟨hb_1_2, h⟩ | ⟨hb_1_2, h⟩
    ·refine rg hc none [oN, oN, oN, oN, oN, oF, oN, oN, oN, oF, oN, o_, o_, oT, oN, o_, o_, oT, oN] [(2, .bool true)] [] (ar 3 hb_1_0 (ar 3 hb_1_1 (ar 2 (neF hb_1_2) (ai hb_1_2 (ar 2 nf (ai tt trivial)))))) ?_
     obtain rfl := Option.some.inj h
     exact Into.mk
    ·rcases itesome h with ⟨hb_1_3, h⟩ | ⟨hb_1_3, h⟩
     ·refine rg hc none [oN, oN, oN, oN, oN, oF, oN, oN, oN, oF, oN, oN, oN, oF, oN, o_, o_, oT, oN] [(2, .bool true)] [] (ar 3 hb_1_0 (ar 3 hb_1_1 (ar 3 hb_1_2 (ar 2 (neF hb_1_3) (ai hb_1_3 trivial))))) ?_
      obtain rfl := Option.some.inj h
      exact Into.mk
     ·refine rg hc none [oN, oN, oN, oN, oN, oF, oN, oN, oN, oF, oN, oN, oN, oF, oN, oN, oN, oF, oN] [(2, .bool (op0 == 12))] [] (ar 3 hb_1_0 (ar 3 hb_1_1 (ar 3 hb_1_2 (ar 3 hb_1_3 trivial)))) ?_
      obtain rfl := Option.some.inj h
      exact Into.mk
 ·clear hj_2
  refine seqQ_norm ?_
  refine Wp.retN (by kernel_rfl) ?_
  obtain rfl := Option.some.inj h
  exact RetQ.ret (fl := [true]) (by kernel_rfl)
def spec_l2Typed (op0 : Int) : Option (Bool) :=
  (
   if (op0 == 6) = true then
    some (true)
   else
    if (op0 == 7) = true then
     some (true)
    else
     some ((op0 == 9))
  ) >>= fun v_1 =>
  some v_1
def M_spec_l2Typed (op0 : Int) (r : Bool) : Prop :=
 FnSound Try.prog 148 [I op0] (.bool r) []
theorem spec_l2Typed_s : ∀ p r, spec_l2Typed p = some r → M_spec_l2Typed p r := by
 rintro op0 r h
 unfold spec_l2Typed at h
 show FnSound Try.prog 148 [I op0] (.bool r) []
 refine FnSound.body0 tiok (fn := Try.f148) (code := B148) (by kernel_rfl) (by kernel_rfl) (by kernel_rfl) (by kernel_rfl) (nt := 13) (by kernel_rfl) (by kernel_rfl) (T := [(0, I op0)]) (O := []) (by kernel_rfl) (by kernel_rfl) (fun c hc => ?_)
 refine sN ?_
 refine rg0 hc 1 [(0, I op0)] [] ?_
 refine seqQ_norm ?_
 refine sN ?_
 obtain ⟨v_1, hj_2, h⟩ := bsome h
 refine Wp.into (x := .normal) (mkS [(2, .bool v_1)] []) ?_ ?_
 ·replace h := hj_2
  rcases itesome h with ⟨hb_1_0, h⟩ | ⟨hb_1_0, h⟩
  ·refine rg hc none [oN, oN, oN, o_, o_, oT, oN, o_, o_, oT, oN] [(2, .bool true)] [] (ar 2 (neF hb_1_0) (ai hb_1_0 (ar 2 nf (ai tt trivial)))) ?_
   obtain rfl := Option.some.inj h
   exact Into.mk
  ·rcases itesome h with ⟨hb_1_1, h⟩ | ⟨hb_1_1, h⟩
   ·refine rg hc none [oN, oN, oN, oN, oN, oF, oN, o_, o_, oT, oN] [(2, .bool true)] [] (ar 3 hb_1_0 (ar 2 (neF hb_1_1) (ai hb_1_1 trivial))) ?_
    obtain rfl := Option.some.inj h
    exact Into.mk
   ·refine rg hc none [oN, oN, oN, oN, oN, oF, oN, oN, oN, oF, oN] [(2, .bool (op0 == 9))] [] (ar 3 hb_1_0 (ar 3 hb_1_1 trivial)) ?_
    obtain rfl := Option.some.inj h
    exact Into.mk
 ·clear hj_2
  refine seqQ_norm ?_
  refine Wp.retN (by kernel_rfl) ?_
  obtain rfl := Option.some.inj h
  exact RetQ.ret (fl := [true]) (by kernel_rfl)
def spec_l2Arrow (c0 : Int) : Option (Bool) :=
  (
   (spec_l1In (c0, 3, 18)) >>= fun r_1_1 =>
   if r_1_1 = true then
    some (true)
   else
    some ((c0 == 35))
  ) >>= fun v_1 =>
  some v_1
def M_spec_l2Arrow (c0 : Int) (r : Bool) : Prop :=
 FnSound Try.prog 137 [I c0] (.bool r) []
theorem spec_l2Arrow_s : ∀ p r, spec_l2Arrow p = some r → M_spec_l2Arrow p r := by
 rintro c0 r h
 unfold spec_l2Arrow at h
 show FnSound Try.prog 137 [I c0] (.bool r) []
 refine FnSound.body0 tiok (fn := Try.f137) (code := B137) (by kernel_rfl) (by kernel_rfl) (by kernel_rfl) (by kernel_rfl) (nt := 9) (by kernel_rfl) (by kernel_rfl) (T := [(0, I c0)]) (O := []) (by kernel_rfl) (by kernel_rfl) (fun c hc => ?_)
 refine sN ?_
 refine rg0 hc 1 [(0, I c0)] [] ?_
 refine seqQ_norm ?_
 refine sN ?_
 obtain ⟨v_1, hj_2, h⟩ := bsome h
 refine Wp.into (x := .normal) (mkS [(2, .bool v_1)] []) ?_ ?_
 ·replace h := hj_2
  obtain ⟨r_1_1, hr_1_1, h⟩ := bsome h
  rcases itesome h with ⟨hb_1_0, h⟩ | ⟨hb_1_0, h⟩
  ·refine rg hc none [oN, oc (.bool r_1_1), oN, o_, o_, oT, oN] [(2, .bool true)] [] (ai (spec_l1In_s _ _ hr_1_1) (ai bod_57 (ai (oi (.bool r_1_1)) (ar 2 (neF hb_1_0) (ai hb_1_0 trivial))))) ?_
   obtain rfl := Option.some.inj h
   exact Into.mk
  ·refine rg hc none [oN, oc (.bool r_1_1), oN, oN, oN, oF, oN] [(2, .bool (c0 == 35))] [] (ai (spec_l1In_s _ _ hr_1_1) (ai bod_57 (ai (oi (.bool r_1_1)) (ar 3 hb_1_0 trivial)))) ?_
   obtain rfl := Option.some.inj h
   exact Into.mk
 ·clear hj_2
  refine seqQ_norm ?_
  refine Wp.retN (by kernel_rfl) ?_
  obtain rfl := Option.some.inj h
  exact RetQ.ret (fl := [true]) (by kernel_rfl)
def spec_l2Box (c0 : Int) : Option (Bool) :=
  (
   (spec_l1In (c0, 19, 34)) >>= fun r_1_1 =>
   if r_1_1 = true then
    some (true)
   else
    some ((c0 == 36))
  ) >>= fun v_1 =>
  some v_1
def M_spec_l2Box (c0 : Int) (r : Bool) : Prop :=
 FnSound Try.prog 73 [I c0] (.bool r) []
theorem spec_l2Box_s : ∀ p r, spec_l2Box p = some r → M_spec_l2Box p r := by
 rintro c0 r h
 unfold spec_l2Box at h
 show FnSound Try.prog 73 [I c0] (.bool r) []
 refine FnSound.body0 tiok (fn := Try.f73) (code := B73) (by kernel_rfl) (by kernel_rfl) (by kernel_rfl) (by kernel_rfl) (nt := 9) (by kernel_rfl) (by kernel_rfl) (T := [(0, I c0)]) (O := []) (by kernel_rfl) (by kernel_rfl) (fun c hc => ?_)
 refine sN ?_
 refine rg0 hc 1 [(0, I c0)] [] ?_
 refine seqQ_norm ?_
 refine sN ?_
 obtain ⟨v_1, hj_2, h⟩ := bsome h
 refine Wp.into (x := .normal) (mkS [(2, .bool v_1)] []) ?_ ?_
 ·replace h := hj_2
  obtain ⟨r_1_1, hr_1_1, h⟩ := bsome h
  rcases itesome h with ⟨hb_1_0, h⟩ | ⟨hb_1_0, h⟩
  ·refine rg hc none [oN, oc (.bool r_1_1), oN, o_, o_, oT, oN] [(2, .bool true)] [] (ai (spec_l1In_s _ _ hr_1_1) (ai bod_57 (ai (oi (.bool r_1_1)) (ar 2 (neF hb_1_0) (ai hb_1_0 trivial))))) ?_
   obtain rfl := Option.some.inj h
   exact Into.mk
  ·refine rg hc none [oN, oc (.bool r_1_1), oN, oN, oN, oF, oN] [(2, .bool (c0 == 36))] [] (ai (spec_l1In_s _ _ hr_1_1) (ai bod_57 (ai (oi (.bool r_1_1)) (ar 3 hb_1_0 trivial)))) ?_
   obtain rfl := Option.some.inj h
   exact Into.mk
 ·clear hj_2
  refine seqQ_norm ?_
  refine Wp.retN (by kernel_rfl) ?_
  obtain rfl := Option.some.inj h
  exact RetQ.ret (fl := [true]) (by kernel_rfl)
def spec_l2Kids (c0 : Int) : Option (Int) :=
  if (c0 == 0) = true then
   some 0
  else
   (
    if (c0 == 1) = true then
     some (true)
    else
     if (c0 == 2) = true then
      some (true)
     else
      (spec_l2Arrow c0) >>= fun r_3_8 =>
      some (r_3_8)
   ) >>= fun v_2 =>
   if v_2 = true then
    some 2
   else
    (spec_l2Box c0) >>= fun r_5_1 =>
    if r_5_1 = true then
     some 1
    else
     some (-1)
def M_spec_l2Kids (c0 : Int) (r : Int) : Prop :=
 FnSound Try.prog 138 [I c0] (I r) []
theorem spec_l2Kids_s : ∀ p r, spec_l2Kids p = some r → M_spec_l2Kids p r := by
 rintro c0 r h
 unfold spec_l2Kids at h
 show FnSound Try.prog 138 [I c0] (I r) []
 refine FnSound.body0 tiok (fn := Try.f138) (code := B138) (by kernel_rfl) (by kernel_rfl) (by kernel_rfl) (by kernel_rfl) (nt := 20) (by kernel_rfl) (by kernel_rfl) (T := [(0, I c0)]) (O := []) (by kernel_rfl) (by kernel_rfl) (fun c hc => ?_)
 refine sN ?_
 refine rg0 hc 1 [(0, I c0)] [] ?_
 refine seqQ_norm ?_
 refine sN ?_
 refine Wp.blockN (i := 0) (by kernel_rfl) ?_
 refine sN ?_
 refine rg0 hc 3 [(0, I c0), (3, .bool (c0 == 0))] [] ?_
 refine seqQ_norm ?_
 rcases itesome h with ⟨hb_1, h⟩ | ⟨hb_1, h⟩
 ·refine cT ((c0 == 0)) hb_1 ?_
  refine sN ?_
  refine rg0 hc 1 [(2, I 0)] [] ?_
  refine seqQ_norm ?_
  refine Wp.retN (by kernel_rfl) ?_
  refine blockQ_ret ?_
  refine seqQ_ret ?_
  obtain rfl := Option.some.inj h
  exact RetQ.ret (fl := [true]) (by kernel_rfl)
 ·refine cF ((c0 == 0)) hb_1 ?_
  refine sN ?_
  obtain ⟨v_2, hj_3, h⟩ := bsome h
  refine Wp.into (x := .normal) (mkS [(0, I c0), (6, .bool v_2)] []) ?_ ?_
  ·replace h := hj_3
   rcases itesome h with ⟨hb_3_0, h⟩ | ⟨hb_3_0, h⟩
   ·refine rg hc none [oN, oN, oN, o_, o_, oT, oN, o_, o_, oT, oN] [(0, I c0), (6, .bool true)] [] (ar 2 (neF hb_3_0) (ai hb_3_0 (ar 2 nf (ai tt trivial)))) ?_
    obtain rfl := Option.some.inj h
    exact Into.mk
   ·rcases itesome h with ⟨hb_3_1, h⟩ | ⟨hb_3_1, h⟩
    ·refine rg hc none [oN, oN, oN, oN, oN, oF, oN, o_, o_, oT, oN] [(0, I c0), (6, .bool true)] [] (ar 3 hb_3_0 (ar 2 (neF hb_3_1) (ai hb_3_1 trivial))) ?_
     obtain rfl := Option.some.inj h
     exact Into.mk
    ·obtain ⟨r_3_8, hr_3_8, h⟩ := bsome h
     refine rg hc none [oN, oN, oN, oN, oN, oF, oN, oN, oc (.bool r_3_8), oF, oN] [(0, I c0), (6, .bool r_3_8)] [] (ar 3 hb_3_0 (ar 2 hb_3_1 (ai (spec_l2Arrow_s _ _ hr_3_8) (ai bod_137 (ai (oi (.bool r_3_8)) (ai hb_3_1 trivial)))))) ?_
     obtain rfl := Option.some.inj h
     exact Into.mk
  ·clear hj_3
   refine seqQ_norm ?_
   rcases itesome h with ⟨hb_4, h⟩ | ⟨hb_4, h⟩
   ·refine cT v_2 hb_4 ?_
    refine sN ?_
    refine rg0 hc 1 [(2, I 2)] [] ?_
    refine seqQ_norm ?_
    refine Wp.retN (by kernel_rfl) ?_
    refine blockQ_ret ?_
    refine seqQ_ret ?_
    obtain rfl := Option.some.inj h
    exact RetQ.ret (fl := [true]) (by kernel_rfl)
   ·refine cF v_2 hb_4 ?_
    refine sN ?_
    obtain ⟨r_5_1, hr_5_1, h⟩ := bsome h
    refine rg hc none [oN, oc (.bool r_5_1), oN] [(17, .bool r_5_1)] [] (ai (spec_l2Box_s _ _ hr_5_1) (ai bod_73 (ai (oi (.bool r_5_1)) trivial))) ?_
    refine seqQ_norm ?_
    rcases itesome h with ⟨hb_5, h⟩ | ⟨hb_5, h⟩
    ·refine cT r_5_1 hb_5 ?_
     refine sN ?_
     refine rg0 hc 1 [(2, I 1)] [] ?_
     refine seqQ_norm ?_
     refine Wp.retN (by kernel_rfl) ?_
     refine blockQ_ret ?_
     refine seqQ_ret ?_
     obtain rfl := Option.some.inj h
     exact RetQ.ret (fl := [true]) (by kernel_rfl)
    ·refine cF r_5_1 hb_5 ?_
     refine Wp.skipN (by kernel_rfl) ?_
     refine blockQ_norm ?_
     refine seqQ_norm ?_
     refine sN ?_
     refine rg0 hc 1 [(2, I (-1))] [] ?_
     refine seqQ_norm ?_
     refine Wp.retN (by kernel_rfl) ?_
     obtain rfl := Option.some.inj h
     exact RetQ.ret (fl := [true]) (by kernel_rfl)
def spec_l2End_F1 (c : Ctx) : (Unit) ⊕ (Int) → Exit → AState → Prop
 | .inl _ => Into c (.exit 0) (mkS [] [])
 | .inr r => RetE TIx Try.f108 [] (I r)
def spec_l2End_l0 (p : (List Int) × Int × Int) : Option ((Unit) ⊕ (Int)) :=
 match p with
 | (ty0, missing_4, i_5) =>
  if (decide (i_5 < (ty0.length : Int))) = true then
   (idx ty0 i_5) >>= fun e_5_2 =>
   (spec_l2Kids e_5_2) >>= fun r_5_4 =>
   if (decide (r_5_4 < 0)) = true then
    some (.inr (-1))
   else
    if ((wr ((wr (missing_4 - 1)) + r_5_4)) == 0) = true then
     some (.inr (wr (i_5 + 1)))
    else
     spec_l2End_l0 (ty0, (wr ((wr (missing_4 - 1)) + r_5_4)), (wr (i_5 + 1)))
  else
   some (.inl ())
 partial_fixpoint
def M_spec_l2End_l0 (p : (List Int) × Int × Int) (fl : (Unit) ⊕ (Int)) : Prop :=
 match p with
 | (ty0, missing_4, i_5) => ∀ c : Ctx, c.nt = 30 → WpL Try.prog c (cl (cl (cr (cl (cr (cr B108)))))) (spec_l2End_F1 c fl) (mkS [(0, sI ty0), (5, I missing_4), (6, I i_5)] [])
theorem spec_l2End_l0_s : ∀ p r, spec_l2End_l0 p = some r → M_spec_l2End_l0 p r := by
 refine spec_l2End_l0.partial_correctness M_spec_l2End_l0 ?_
 rintro spec_l2End_l0_f spec_l2End_l0_ih ⟨ty0, missing_4, i_5⟩ r h
 intro c hc
 show WpL Try.prog c (cl (cl (cr (cl (cr (cr B108)))))) (spec_l2End_F1 c r) (mkS [(0, sI ty0), (5, I missing_4), (6, I i_5)] [])
 refine WpL.step ?_
 refine sN ?_
 refine sN ?_
 refine rg hc none [oN, oN, some (.eqv (.no) ⟨[(11, I (ty0.length : Int))], [], []⟩), oN] [(0, sI ty0), (5, I missing_4), (6, I i_5), (12, .bool (decide (i_5 < (ty0.length : Int))))] [] (ai (lenT (d := 11) I ty0) trivial) ?_
 refine seqQ_norm ?_
 rcases itesome h with ⟨hb_6, h⟩ | ⟨hb_6, h⟩
 ·refine cT ((decide (i_5 < (ty0.length : Int)))) hb_6 ?_
  refine Wp.skipN (by kernel_rfl) ?_
  refine seqQ_norm ?_
  refine sN ?_
  refine Wp.blockN (i := 1) (by kernel_rfl) ?_
  refine sN ?_
  obtain ⟨e_5_2, hi_5_2, h⟩ := bsome h
  obtain ⟨r_5_4, hr_5_4, h⟩ := bsome h
  refine rg hc none [oN, oN, some (.el (I e_5_2)), oN, oc (I r_5_4), oN] [(0, sI ty0), (5, I missing_4), (6, I i_5), (7, I r_5_4)] [] (ai (ix hi_5_2) (ai (spec_l2Kids_s _ _ hr_5_4) (ai bod_138 (ai (oi (I r_5_4)) trivial)))) ?_
  refine seqQ_norm ?_
  refine sN ?_
  refine sN ?_
  refine rg0 hc 2 [(0, sI ty0), (5, I missing_4), (6, I i_5), (7, I r_5_4), (21, .bool (decide (r_5_4 < 0)))] [] ?_
  refine seqQ_norm ?_
  rcases itesome h with ⟨hb_7, h⟩ | ⟨hb_7, h⟩
  ·refine cT ((decide (r_5_4 < 0))) hb_7 ?_
   refine sN ?_
   refine rg0 hc 1 [(4, I (-1))] [] ?_
   refine seqQ_norm ?_
   refine Wp.retN (by kernel_rfl) ?_
   refine seqQ_ret ?_
   refine blockQ_ret ?_
   refine seqQ_ret ?_
   refine loopQ_ret ?_
   obtain rfl := Option.some.inj h
   exact RetE.ret (fl := [true]) (by kernel_rfl)
  ·refine cF ((decide (r_5_4 < 0))) hb_7 ?_
   refine Wp.skipN (by kernel_rfl) ?_
   refine seqQ_norm ?_
   refine sN ?_
   refine rg0 hc 5 [(0, sI ty0), (5, I (wr ((wr (missing_4 - 1)) + r_5_4))), (6, I i_5)] [] ?_
   refine seqQ_norm ?_
   refine sN ?_
   refine rg0 hc 2 [(0, sI ty0), (5, I (wr ((wr (missing_4 - 1)) + r_5_4))), (6, I i_5), (27, .bool ((wr ((wr (missing_4 - 1)) + r_5_4)) == 0))] [] ?_
   refine seqQ_norm ?_
   rcases itesome h with ⟨hb_8, h⟩ | ⟨hb_8, h⟩
   ·refine cT (((wr ((wr (missing_4 - 1)) + r_5_4)) == 0)) hb_8 ?_
    refine sN ?_
    refine rg0 hc 3 [(4, I (wr (i_5 + 1)))] [] ?_
    refine seqQ_norm ?_
    refine Wp.retN (by kernel_rfl) ?_
    refine blockQ_ret ?_
    refine seqQ_ret ?_
    refine loopQ_ret ?_
    obtain rfl := Option.some.inj h
    exact RetE.ret (fl := [true]) (by kernel_rfl)
   ·refine cF (((wr ((wr (missing_4 - 1)) + r_5_4)) == 0)) hb_8 ?_
    refine Wp.skipN (by kernel_rfl) ?_
    refine blockQ_norm ?_
    refine seqQ_norm ?_
    refine rg0 hc 3 [(0, sI ty0), (5, I (wr ((wr (missing_4 - 1)) + r_5_4))), (6, I (wr (i_5 + 1)))] [] ?_
    refine loopQ_norm ?_
    exact (spec_l2End_l0_ih _ _ h c hc)
 ·refine cF ((decide (i_5 < (ty0.length : Int)))) hb_6 ?_
  refine Wp.exitN (i := 0) (by kernel_rfl) ?_
  refine seqQ_exit ?_
  refine loopQ_exit ?_
  obtain rfl := Option.some.inj h
  exact Into.view (fun a w hv => SRx.renL [] hv (by kernel_rfl) (by kernel_rfl) (by kernel_rfl))
def spec_l2End (p : (List Int) × Int) : Option (Int) :=
 match p with
 | (ty0, at1) =>
  (spec_l2End_l0 (ty0, 1, at1)) >>= fun fl => match fl with
  | .inl () =>
   some (-1)
  | .inr r =>
   some r
def M_spec_l2End (p : (List Int) × Int) (r : Int) : Prop :=
 match p with
 | (ty0, at1) => FnSound Try.prog 108 [sI ty0, I at1] (I r) []
theorem spec_l2End_s : ∀ p r, spec_l2End p = some r → M_spec_l2End p r := by
 rintro ⟨ty0, at1⟩ r h
 unfold spec_l2End at h
 show FnSound Try.prog 108 [sI ty0, I at1] (I r) []
 refine FnSound.body0 tiok (fn := Try.f108) (code := B108) (by kernel_rfl) (by kernel_rfl) (by kernel_rfl) (by kernel_rfl) (nt := 30) (by kernel_rfl) (by kernel_rfl) (T := [(0, sI ty0), (1, I at1)]) (O := []) (by kernel_rfl) (by kernel_rfl) (fun c hc => ?_)
 refine sN ?_
 refine rg0 hc 1 [(0, sI ty0), (1, I at1)] [] ?_
 refine seqQ_norm ?_
 refine sN ?_
 refine rg0 hc 1 [(0, sI ty0), (1, I at1), (5, I 1)] [] ?_
 refine seqQ_norm ?_
 refine sN ?_
 refine sN ?_
 refine rg0 hc 2 [(0, sI ty0), (5, I 1), (6, I at1)] [] ?_
 refine seqQ_norm ?_
 refine Wp.blockN (i := 0) (by kernel_rfl) ?_
 obtain ⟨fl, hl_9, h⟩ := bsome h
 have hL := spec_l2End_l0_s _ _ hl_9 c hc
 refine Wp.loopN (by kernel_rfl) ?_
 rcases fl with ⟨⟩ | r
 ·refine WpL.into (e := (.exit 0)) (mkS [] []) hL ?_
  refine blockQ_hit ?_
  refine seqQ_norm ?_
  refine sN ?_
  refine rg0 hc 1 [(4, I (-1))] [] ?_
  refine seqQ_norm ?_
  refine Wp.retN (by kernel_rfl) ?_
  obtain rfl := Option.some.inj h
  exact RetQ.ret (fl := [true]) (by kernel_rfl)
 ·refine WpL.mono hL ?_
  rintro _ _ ⟨rfl, hfin⟩
  refine blockQ_ret ?_
  refine seqQ_ret ?_
  obtain rfl := Option.some.inj h
  exact ⟨.inl rfl, hfin⟩
def spec_l2Type (ty0 : (List Int)) : Option (Bool) :=
  (
   if (decide ((ty0.length : Int) ≤ 40)) = true then
    (spec_l2End (ty0, 0)) >>= fun r_1_5 =>
    if (r_1_5 == (ty0.length : Int)) = true then
     some ((decide ((ty0.length : Int) > 0)))
    else
     some (false)
   else
    some (false)
  ) >>= fun v_1 =>
  some v_1
def M_spec_l2Type (ty0 : (List Int)) (r : Bool) : Prop :=
 FnSound Try.prog 135 [sI ty0] (.bool r) []
theorem spec_l2Type_s : ∀ p r, spec_l2Type p = some r → M_spec_l2Type p r := by
 rintro ty0 r h
 unfold spec_l2Type at h
 show FnSound Try.prog 135 [sI ty0] (.bool r) []
 refine FnSound.body0 tiok (fn := Try.f135) (code := B135) (by kernel_rfl) (by kernel_rfl) (by kernel_rfl) (by kernel_rfl) (nt := 18) (by kernel_rfl) (by kernel_rfl) (T := [(0, sI ty0)]) (O := []) (by kernel_rfl) (by kernel_rfl) (fun c hc => ?_)
 refine sN ?_
 refine rg0 hc 1 [(0, sI ty0)] [] ?_
 refine seqQ_norm ?_
 refine sN ?_
 obtain ⟨v_1, hj_2, h⟩ := bsome h
 refine Wp.into (x := .normal) (mkS [(2, .bool v_1)] []) ?_ ?_
 ·replace h := hj_2
  rcases itesome h with ⟨hb_1_0, h⟩ | ⟨hb_1_0, h⟩
  ·obtain ⟨r_1_5, hr_1_5, h⟩ := bsome h
   rcases itesome h with ⟨hb_1_1, h⟩ | ⟨hb_1_1, h⟩
   ·refine rg hc none [oN, some (.eqv (.no) ⟨[(4, I (ty0.length : Int))], [], []⟩), oN, oN, oN, oc (I r_1_5), oN, some (.eqv (.no) ⟨[(10, I (ty0.length : Int))], [], []⟩), oN, oT, oN, oN, some (.eqv (.no) ⟨[(15, I (ty0.length : Int))], [], []⟩), oN, oT, oN] [(2, .bool (decide ((ty0.length : Int) > 0)))] [] (ai (lenT (d := 4) I ty0) (ar 2 hb_1_0 (ai (spec_l2End_s _ _ hr_1_5) (ai bod_108 (ai (oi (I r_1_5)) (ar 2 hb_1_0 (ai (lenT (d := 10) I ty0) (ar 2 hb_1_0 (ar 2 hb_1_1 (ai (lenT (d := 15) I ty0) (ar 2 hb_1_1 trivial))))))))))) ?_
    obtain rfl := Option.some.inj h
    exact Into.mk
   ·refine rg hc none [oN, some (.eqv (.no) ⟨[(4, I (ty0.length : Int))], [], []⟩), oN, oN, oN, oc (I r_1_5), oN, some (.eqv (.no) ⟨[(10, I (ty0.length : Int))], [], []⟩), oN, oT, oN, o_, o_, o_, oF, oN] [(2, .bool false)] [] (ai (lenT (d := 4) I ty0) (ar 2 hb_1_0 (ai (spec_l2End_s _ _ hr_1_5) (ai bod_108 (ai (oi (I r_1_5)) (ar 2 hb_1_0 (ai (lenT (d := 10) I ty0) (ar 2 hb_1_0 (ar 3 (neT hb_1_1) (ai hb_1_1 trivial)))))))))) ?_
    obtain rfl := Option.some.inj h
    exact Into.mk
  ·refine rg hc none [oN, some (.eqv (.no) ⟨[(4, I (ty0.length : Int))], [], []⟩), oN, oN, o_, o_, o_, o_, o_, oF, oN, o_, o_, o_, oF, oN] [(2, .bool false)] [] (ai (lenT (d := 4) I ty0) (ar 5 (neT hb_1_0) (ai hb_1_0 (ar 3 (neT (rfl : false = false)) (ai (rfl : false = false) trivial))))) ?_
   obtain rfl := Option.some.inj h
   exact Into.mk
 ·clear hj_2
  refine seqQ_norm ?_
  refine Wp.retN (by kernel_rfl) ?_
  obtain rfl := Option.some.inj h
  exact RetQ.ret (fl := [true]) (by kernel_rfl)
def spec_l2Grade (c0 : Int) : Option (Int) :=
  if (decide (c0 ≥ 35)) = true then
   some (-1)
  else
   if (decide (c0 ≥ 19)) = true then
    some (wr (c0 - 19))
   else
    some (wr (c0 - 3))
def M_spec_l2Grade (c0 : Int) (r : Int) : Prop :=
 FnSound Try.prog 74 [I c0] (I r) []
theorem spec_l2Grade_s : ∀ p r, spec_l2Grade p = some r → M_spec_l2Grade p r := by
 rintro c0 r h
 unfold spec_l2Grade at h
 show FnSound Try.prog 74 [I c0] (I r) []
 refine FnSound.body0 tiok (fn := Try.f74) (code := B74) (by kernel_rfl) (by kernel_rfl) (by kernel_rfl) (by kernel_rfl) (nt := 13) (by kernel_rfl) (by kernel_rfl) (T := [(0, I c0)]) (O := []) (by kernel_rfl) (by kernel_rfl) (fun c hc => ?_)
 refine sN ?_
 refine rg0 hc 1 [(0, I c0)] [] ?_
 refine seqQ_norm ?_
 refine sN ?_
 refine Wp.blockN (i := 0) (by kernel_rfl) ?_
 refine sN ?_
 refine rg0 hc 3 [(0, I c0), (3, .bool (decide (c0 ≥ 35)))] [] ?_
 refine seqQ_norm ?_
 rcases itesome h with ⟨hb_1, h⟩ | ⟨hb_1, h⟩
 ·refine cT ((decide (c0 ≥ 35))) hb_1 ?_
  refine sN ?_
  refine rg0 hc 1 [(2, I (-1))] [] ?_
  refine seqQ_norm ?_
  refine Wp.retN (by kernel_rfl) ?_
  refine blockQ_ret ?_
  refine seqQ_ret ?_
  obtain rfl := Option.some.inj h
  exact RetQ.ret (fl := [true]) (by kernel_rfl)
 ·refine cF ((decide (c0 ≥ 35))) hb_1 ?_
  refine sN ?_
  refine rg0 hc 3 [(0, I c0), (6, .bool (decide (c0 ≥ 19)))] [] ?_
  refine seqQ_norm ?_
  rcases itesome h with ⟨hb_2, h⟩ | ⟨hb_2, h⟩
  ·refine cT ((decide (c0 ≥ 19))) hb_2 ?_
   refine sN ?_
   refine rg0 hc 3 [(2, I (wr (c0 - 19)))] [] ?_
   refine seqQ_norm ?_
   refine Wp.retN (by kernel_rfl) ?_
   refine blockQ_ret ?_
   refine seqQ_ret ?_
   obtain rfl := Option.some.inj h
   exact RetQ.ret (fl := [true]) (by kernel_rfl)
  ·refine cF ((decide (c0 ≥ 19))) hb_2 ?_
   refine Wp.skipN (by kernel_rfl) ?_
   refine blockQ_norm ?_
   refine seqQ_norm ?_
   refine sN ?_
   refine rg0 hc 3 [(2, I (wr (c0 - 3)))] [] ?_
   refine seqQ_norm ?_
   refine Wp.retN (by kernel_rfl) ?_
   obtain rfl := Option.some.inj h
   exact RetQ.ret (fl := [true]) (by kernel_rfl)
def spec_l2Graded_F1 (c : Ctx) (ty0 : List Int) (size1 : Int) (closed2 : Bool) (i_9 : Int) : (Unit) ⊕ (Bool) → Exit → AState → Prop
 | .inl _ => Into c .normal (mkS [(0, sI ty0), (1, I size1), (2, .bool closed2), (7, I i_9)] [])
 | .inr r => RetE TIx Try.f136 [] (.bool r)
def spec_l2Graded_F2 (c : Ctx) : (Unit) ⊕ (Bool) → Exit → AState → Prop
 | .inl _ => Into c (.exit 0) (mkS [] [])
 | .inr r => RetE TIx Try.f136 [] (.bool r)
def spec_l2Graded_l0 (p : (List Int) × Int × Bool × Int) : Option ((Unit) ⊕ (Bool)) :=
 match p with
 | (ty0, size1, closed2, i_9) =>
  if (decide (i_9 < (ty0.length : Int))) = true then
   (
    (idx ty0 i_9) >>= fun e_4_2 =>
    (spec_l2Kids e_4_2) >>= fun r_4_4 =>
    if (decide (r_4_4 > 0)) = true then
     (idx ty0 i_9) >>= fun e_4_9 =>
     some ((decide (e_4_9 > 2)))
    else
     some (false)
   ) >>= fun v_11 =>
   ((
    if v_11 = true then
     (idx ty0 i_9) >>= fun e_5_2 =>
     (spec_l2Grade e_5_2) >>= fun r_5_4 =>
     (
      if (decide (r_5_4 ≥ size1)) = true then
       some (true)
      else
       if closed2 = true then
        some ((decide (r_5_4 < 0)))
       else
        some (false)
     ) >>= fun v_14 =>
     if v_14 = true then
      some (.inr false)
     else
      some (.inl ())
    else
     some (.inl ())) : Option ((Unit) ⊕ (Bool))) >>= fun fl => match fl with
   | .inl () =>
    spec_l2Graded_l0 (ty0, size1, closed2, (wr (i_9 + 1)))
   | .inr r =>
    some (.inr r)
  else
   some (.inl ())
 partial_fixpoint
def M_spec_l2Graded_l0 (p : (List Int) × Int × Bool × Int) (fl : (Unit) ⊕ (Bool)) : Prop :=
 match p with
 | (ty0, size1, closed2, i_9) => ∀ c : Ctx, c.nt = 43 → WpL Try.prog c (cl (cl (cr (cl (cr B136))))) (spec_l2Graded_F2 c fl) (mkS [(0, sI ty0), (1, I size1), (2, .bool closed2), (7, I i_9)] [])
theorem spec_l2Graded_l0_s : ∀ p r, spec_l2Graded_l0 p = some r → M_spec_l2Graded_l0 p r := by
 refine spec_l2Graded_l0.partial_correctness M_spec_l2Graded_l0 ?_
 rintro spec_l2Graded_l0_f spec_l2Graded_l0_ih ⟨ty0, size1, closed2, i_9⟩ r h
 intro c hc
 show WpL Try.prog c (cl (cl (cr (cl (cr B136))))) (spec_l2Graded_F2 c r) (mkS [(0, sI ty0), (1, I size1), (2, .bool closed2), (7, I i_9)] [])
 refine WpL.step ?_
 refine sN ?_
 refine sN ?_
 refine rg hc none [oN, oN, some (.eqv (.no) ⟨[(11, I (ty0.length : Int))], [], []⟩), oN] [(0, sI ty0), (1, I size1), (2, .bool closed2), (7, I i_9), (12, .bool (decide (i_9 < (ty0.length : Int))))] [] (ai (lenT (d := 11) I ty0) trivial) ?_
 refine seqQ_norm ?_
 rcases itesome h with ⟨hb_10, h⟩ | ⟨hb_10, h⟩
 ·refine cT ((decide (i_9 < (ty0.length : Int)))) hb_10 ?_
  refine Wp.skipN (by kernel_rfl) ?_
  refine seqQ_norm ?_
  refine sN ?_
  refine Wp.blockN (i := 1) (by kernel_rfl) ?_
  refine sN ?_
  obtain ⟨v_11, hj_12, h⟩ := bsome h
  refine Wp.into (x := .normal) (mkS [(0, sI ty0), (1, I size1), (2, .bool closed2), (7, I i_9), (27, .bool v_11)] []) ?_ ?_
  ·replace h := hj_12
   obtain ⟨e_4_2, hi_4_2, h⟩ := bsome h
   obtain ⟨r_4_4, hr_4_4, h⟩ := bsome h
   rcases itesome h with ⟨hb_4_0, h⟩ | ⟨hb_4_0, h⟩
   ·obtain ⟨e_4_9, hi_4_9, h⟩ := bsome h
    refine rg hc none [oN, oN, some (.el (I e_4_2)), oN, oc (I r_4_4), oN, oN, oN, oN, some (.el (I e_4_9)), oN, oN, oT] [(0, sI ty0), (1, I size1), (2, .bool closed2), (7, I i_9), (27, .bool (decide (e_4_9 > 2)))] [] (ai (ix hi_4_2) (ai (spec_l2Kids_s _ _ hr_4_4) (ai bod_138 (ai (oi (I r_4_4)) (ar 3 hb_4_0 (ai (ix hi_4_9) (ar 3 hb_4_0 trivial))))))) ?_
    obtain rfl := Option.some.inj h
    exact Into.mk
   ·refine rg hc none [oN, oN, some (.el (I e_4_2)), oN, oc (I r_4_4), oN, oN, o_, o_, o_, o_, o_, oF] [(0, sI ty0), (1, I size1), (2, .bool closed2), (7, I i_9), (27, .bool false)] [] (ai (ix hi_4_2) (ai (spec_l2Kids_s _ _ hr_4_4) (ai bod_138 (ai (oi (I r_4_4)) (ar 5 (neT hb_4_0) (ai hb_4_0 trivial)))))) ?_
    obtain rfl := Option.some.inj h
    exact Into.mk
  ·clear hj_12
   refine seqQ_norm ?_
   obtain ⟨fl, hj_17, h⟩ := bsome h
   have hF : Wp Try.prog c (cr (cl (cl (cr (cl (cl (cr (cl (cr B136))))))))) (spec_l2Graded_F1 c ty0 size1 closed2 i_9 fl) (mkS [(0, sI ty0), (1, I size1), (2, .bool closed2), (7, I i_9), (27, .bool v_11)] []) := by
    replace h := hj_17
    rcases itesome h with ⟨hb_13, h⟩ | ⟨hb_13, h⟩
    ·refine cT v_11 hb_13 ?_
     refine sN ?_
     obtain ⟨e_5_2, hi_5_2, h⟩ := bsome h
     obtain ⟨r_5_4, hr_5_4, h⟩ := bsome h
     refine rg hc none [oN, oN, some (.el (I e_5_2)), oN, oc (I r_5_4), oN] [(0, sI ty0), (1, I size1), (2, .bool closed2), (7, I i_9), (8, I r_5_4)] [] (ai (ix hi_5_2) (ai (spec_l2Grade_s _ _ hr_5_4) (ai bod_74 (ai (oi (I r_5_4)) trivial)))) ?_
     refine seqQ_norm ?_
     refine sN ?_
     obtain ⟨v_14, hj_15, h⟩ := bsome h
     refine Wp.into (x := .normal) (mkS [(0, sI ty0), (1, I size1), (2, .bool closed2), (7, I i_9), (42, .bool v_14)] []) ?_ ?_
     ·replace h := hj_15
      rcases itesome h with ⟨hb_6_0, h⟩ | ⟨hb_6_0, h⟩
      ·refine rg hc none [oN, oN, oN, oN, o_, o_, o_, o_, o_, oT] [(0, sI ty0), (1, I size1), (2, .bool closed2), (7, I i_9), (42, .bool true)] [] (ar 3 (neF hb_6_0) (ai hb_6_0 trivial)) ?_
       obtain rfl := Option.some.inj h
       exact Into.mk
      ·rcases itesome h with ⟨hb_6_1, h⟩ | ⟨hb_6_1, h⟩
       ·refine rg hc none [oN, oN, oN, oN, oN, oN, oN, oN, oT, oF] [(0, sI ty0), (1, I size1), (2, .bool closed2), (7, I i_9), (42, .bool (decide (r_5_4 < 0)))] [] (ar 2 hb_6_0 (ar 2 hb_6_1 (ai hb_6_0 (ai hb_6_1 (ai hb_6_0 trivial))))) ?_
        obtain rfl := Option.some.inj h
        exact Into.mk
       ·refine rg hc none [oN, oN, oN, oN, oN, oN, o_, o_, oF, oF] [(0, sI ty0), (1, I size1), (2, .bool closed2), (7, I i_9), (42, .bool false)] [] (ar 2 hb_6_0 (ar 2 (neT hb_6_1) (ai hb_6_0 (ai hb_6_1 (ai hb_6_0 trivial))))) ?_
        obtain rfl := Option.some.inj h
        exact Into.mk
     ·clear hj_15
      refine seqQ_norm ?_
      rcases itesome h with ⟨hb_16, h⟩ | ⟨hb_16, h⟩
      ·refine cT v_14 hb_16 ?_
       refine sN ?_
       refine rg0 hc 1 [(6, .bool false)] [] ?_
       refine seqQ_norm ?_
       refine Wp.retN (by kernel_rfl) ?_
       obtain rfl := Option.some.inj h
       exact RetE.ret (fl := [true]) (by kernel_rfl)
      ·refine cF v_14 hb_16 ?_
       refine Wp.skipN (by kernel_rfl) ?_
       obtain rfl := Option.some.inj h
       exact Into.view (fun a w hv => SRx.renL [] hv (by kernel_rfl) (by kernel_rfl) (by kernel_rfl))
    ·refine cF v_11 hb_13 ?_
     refine Wp.skipN (by kernel_rfl) ?_
     obtain rfl := Option.some.inj h
     exact Into.view (fun a w hv => SRx.renL [] hv (by kernel_rfl) (by kernel_rfl) (by kernel_rfl))
   rcases fl with ⟨⟩ | r
   ·refine Wp.into (x := .normal) (mkS [(0, sI ty0), (1, I size1), (2, .bool closed2), (7, I i_9)] []) hF ?_
    refine blockQ_norm ?_
    refine seqQ_norm ?_
    refine rg0 hc 3 [(0, sI ty0), (1, I size1), (2, .bool closed2), (7, I (wr (i_9 + 1)))] [] ?_
    refine loopQ_norm ?_
    exact (spec_l2Graded_l0_ih _ _ h c hc)
   ·refine Wp.mono hF ?_
    rintro _ _ ⟨rfl, hfin⟩
    refine blockQ_ret ?_
    refine seqQ_ret ?_
    refine loopQ_ret ?_
    obtain rfl := Option.some.inj h
    exact ⟨rfl, hfin⟩
 ·refine cF ((decide (i_9 < (ty0.length : Int)))) hb_10 ?_
  refine Wp.exitN (i := 0) (by kernel_rfl) ?_
  refine seqQ_exit ?_
  refine loopQ_exit ?_
  obtain rfl := Option.some.inj h
  exact Into.view (fun a w hv => SRx.renL [] hv (by kernel_rfl) (by kernel_rfl) (by kernel_rfl))
def spec_l2Graded (p : (List Int) × Int × Bool) : Option (Bool) :=
 match p with
 | (ty0, size1, closed2) =>
  (spec_l2Graded_l0 (ty0, size1, closed2, 0)) >>= fun fl => match fl with
  | .inl () =>
   some true
  | .inr r =>
   some r
def M_spec_l2Graded (p : (List Int) × Int × Bool) (r : Bool) : Prop :=
 match p with
 | (ty0, size1, closed2) => FnSound Try.prog 136 [sI ty0, I size1, .bool closed2] (.bool r) []
theorem spec_l2Graded_s : ∀ p r, spec_l2Graded p = some r → M_spec_l2Graded p r := by
 rintro ⟨ty0, size1, closed2⟩ r h
 unfold spec_l2Graded at h
 show FnSound Try.prog 136 [sI ty0, I size1, .bool closed2] (.bool r) []
 refine FnSound.body0 tiok (fn := Try.f136) (code := B136) (by kernel_rfl) (by kernel_rfl) (by kernel_rfl) (by kernel_rfl) (nt := 43) (by kernel_rfl) (by kernel_rfl) (T := [(0, sI ty0), (1, I size1), (2, .bool closed2)]) (O := []) (by kernel_rfl) (by kernel_rfl) (fun c hc => ?_)
 refine sN ?_
 refine rg0 hc 1 [(0, sI ty0), (1, I size1), (2, .bool closed2)] [] ?_
 refine seqQ_norm ?_
 refine sN ?_
 refine sN ?_
 refine rg0 hc 1 [(0, sI ty0), (1, I size1), (2, .bool closed2), (7, I 0)] [] ?_
 refine seqQ_norm ?_
 refine Wp.blockN (i := 0) (by kernel_rfl) ?_
 obtain ⟨fl, hl_18, h⟩ := bsome h
 have hL := spec_l2Graded_l0_s _ _ hl_18 c hc
 refine Wp.loopN (by kernel_rfl) ?_
 rcases fl with ⟨⟩ | r
 ·refine WpL.into (e := (.exit 0)) (mkS [] []) hL ?_
  refine blockQ_hit ?_
  refine seqQ_norm ?_
  refine sN ?_
  refine rg0 hc 1 [(6, .bool true)] [] ?_
  refine seqQ_norm ?_
  refine Wp.retN (by kernel_rfl) ?_
  obtain rfl := Option.some.inj h
  exact RetQ.ret (fl := [true]) (by kernel_rfl)
 ·refine WpL.mono hL ?_
  rintro _ _ ⟨rfl, hfin⟩
  refine blockQ_ret ?_
  refine seqQ_ret ?_
  obtain rfl := Option.some.inj h
  exact ⟨.inl rfl, hfin⟩
def spec_l2Node_F1 (c : Ctx) (t0 : GTerm) (size2 : Int) (closed3 : Bool) : (Unit) ⊕ (Bool) → Exit → AState → Prop
 | .inl _ => Into c .normal (mkS [(2, I size2), (3, .bool closed3), (4, .ra 1 0)] [(1, bTerm t0)])
 | .inr r => RetE TIx Try.f131 [] (.bool r)
def spec_l2Node_F2 (c : Ctx) (t0 : GTerm) (size2 : Int) (closed3 : Bool) : (Unit) ⊕ (Bool) → Exit → AState → Prop
 | .inl _ => Into c .normal (mkS [(2, I size2), (3, .bool closed3), (4, .ra 1 0)] [(1, bTerm t0)])
 | .inr r => RetE TIx Try.f131 [] (.bool r)
def spec_l2Node_F3 (c : Ctx) (t0 : GTerm) (size2 : Int) (closed3 : Bool) : (Unit) ⊕ (Bool) → Exit → AState → Prop
 | .inl _ => Into c .normal (mkS [(2, I size2), (3, .bool closed3), (4, .ra 1 0)] [(1, bTerm t0)])
 | .inr r => RetE TIx Try.f131 [] (.bool r)
end Go.Am
