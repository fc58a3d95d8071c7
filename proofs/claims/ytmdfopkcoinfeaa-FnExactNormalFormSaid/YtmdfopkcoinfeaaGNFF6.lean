/- Functions of the program as pure functions, and that it computes them. Printed by a program of mine (gen.py). -/
import Derived.Test.YtmdfopkcoinfeaaGNFF5
set_option linter.unusedVariables false
set_option linter.unusedSimpArgs false
set_option maxRecDepth 100000
namespace Go.Am
open Go Go.Proofs
mutual
def laws_markTermS (p : (List GTerm) × Int) : Option (Int × (List GTerm)) :=
 match p with
 | (a0, k1) =>
  (laws_markTermS_l0 (a0, k1, 0)) >>= fun (k_6, x_7) =>
  some (k_6, x_7)
 partial_fixpoint
def laws_markTermS_l0 (p : (List GTerm) × Int × Int) : Option (Int × (List GTerm)) :=
 match p with
 | (a_2, k_3, i_4) =>
  if (decide (i_4 < (a_2.length : Int))) = true then
   (idx a_2 i_4) >>= fun e_4_3 =>
   (idx (List.set a_2 (Int.toNat i_4) (GTerm.mk k_3 e_4_3.fN e_4_3.fType e_4_3.fKids)) i_4) >>= fun e_6_3 =>
   (idx (List.set (List.set a_2 (Int.toNat i_4) (GTerm.mk k_3 e_4_3.fN e_4_3.fType e_4_3.fKids)) (Int.toNat i_4) (GTerm.mk e_6_3.fOp (wr (k_3 + 1)) e_6_3.fType e_6_3.fKids)) i_4) >>= fun e_8_x =>
   (laws_markIntS (e_8_x.fType, (wr ((wr (k_3 + 1)) + 1)))) >>= fun (r_8_6, o_8_6_0) =>
   (idx (List.set (List.set (List.set a_2 (Int.toNat i_4) (GTerm.mk k_3 e_4_3.fN e_4_3.fType e_4_3.fKids)) (Int.toNat i_4) (GTerm.mk e_6_3.fOp (wr (k_3 + 1)) e_6_3.fType e_6_3.fKids)) (Int.toNat i_4) (GTerm.mk e_8_x.fOp e_8_x.fN o_8_6_0 e_8_x.fKids)) i_4) >>= fun e_9_x =>
   (laws_markTermS (e_9_x.fKids, r_8_6)) >>= fun (r_9_6, o_9_6_0) =>
   laws_markTermS_l0 ((List.set (List.set (List.set (List.set a_2 (Int.toNat i_4) (GTerm.mk k_3 e_4_3.fN e_4_3.fType e_4_3.fKids)) (Int.toNat i_4) (GTerm.mk e_6_3.fOp (wr (k_3 + 1)) e_6_3.fType e_6_3.fKids)) (Int.toNat i_4) (GTerm.mk e_8_x.fOp e_8_x.fN o_8_6_0 e_8_x.fKids)) (Int.toNat i_4) (GTerm.mk e_9_x.fOp e_9_x.fN e_9_x.fType o_9_6_0)), r_9_6, (wr (i_4 + 1)))
  else
   some ((k_3, a_2))
 partial_fixpoint
end
def M_laws_markTermS (p : (List GTerm) × Int) (r : Int × (List GTerm)) : Prop :=
 match p with
 | (a0, k1) => FnSound Try.prog 53 [.osl (List.map GTerm_O a0), I k1] (I r.1) [.osl (List.map GTerm_O r.2), .undef]
def M_laws_markTermS_l0 (p : (List GTerm) × Int × Int) (fl : Int × (List GTerm)) : Prop :=
 match p with
 | (a_2, k_3, i_4) => ∀ c : Ctx, c.nt = 41 → WpL Try.prog c (cl (cl (cr (cl (cr B53))))) (laws_markTermS_F1 c fl) (mkS [(0, .rs 1000), (1, I k_3), (5, I i_4)] [(1000, .arr (List.map GTerm_O a_2))])
theorem laws_markTermS_all : (∀ p r, laws_markTermS p = some r → M_laws_markTermS p r) ∧ (∀ p r, laws_markTermS_l0 p = some r → M_laws_markTermS_l0 p r) := by
 refine laws_markTermS.mutual_partial_correctness M_laws_markTermS M_laws_markTermS_l0 ?_ ?_
 ·rintro laws_markTermS_l0_f laws_markTermS_l0_ih ⟨a0, k1⟩ r h
  show FnSound Try.prog 53 [.osl (List.map GTerm_O a0), I k1] (I r.1) [.osl (List.map GTerm_O r.2), .undef]
  refine FnSound.bodyO tiok (fn := Try.f53) (code := B53) (by kernel_rfl) (by kernel_rfl) (by kernel_rfl) (nt := 41) (by kernel_rfl) (by kernel_rfl) (T := [(0, .rs 1000), (1, I k1)]) (O := [(1000, .arr (List.map GTerm_O a0))]) (by kernel_rfl) (by kernel_rfl) (fun c hc => ?_)
  refine sN ?_
  refine rg0 hc 1 [(0, .rs 1000), (1, I k1)] [(1000, .arr (List.map GTerm_O a0))] ?_
  refine seqQ_norm ?_
  refine sN ?_
  refine sN ?_
  refine rg0 hc 1 [(0, .rs 1000), (1, I k1), (5, I 0)] [(1000, .arr (List.map GTerm_O a0))] ?_
  refine seqQ_norm ?_
  refine Wp.blockN (i := 0) (by kernel_rfl) ?_
  obtain ⟨⟨k_6, x_7⟩, hl_8, h⟩ := bsome h
  have hL := laws_markTermS_l0_ih _ _ hl_8 c hc
  refine Wp.loopN (by kernel_rfl) ?_
  ·refine WpL.into (e := (.exit 0)) (mkS [(1, I k_6)] [(1000, .arr (List.map GTerm_O x_7))]) hL ?_
   refine blockQ_hit ?_
   refine seqQ_norm ?_
   refine sN ?_
   refine rg0 hc 2 [(4, I k_6)] [(1000, .arr (List.map GTerm_O x_7))] ?_
   refine seqQ_norm ?_
   refine Wp.retN (by kernel_rfl) ?_
   obtain rfl := Option.some.inj h
   exact RetOQ.ret (fl := [true]) (by kernel_rfl)
 ·rintro laws_markTermS_f laws_markTermS_l0_f laws_markTermS_ih laws_markTermS_l0_ih ⟨a_2, k_3, i_4⟩ r h
  intro c hc
  show WpL Try.prog c (cl (cl (cr (cl (cr B53))))) (laws_markTermS_F1 c r) (mkS [(0, .rs 1000), (1, I k_3), (5, I i_4)] [(1000, .arr (List.map GTerm_O a_2))])
  refine WpL.step ?_
  refine sN ?_
  refine sN ?_
  refine rg hc none [oN, oN, some (.eqv (.no) ⟨[(8, I (a_2.length : Int))], [], []⟩), oN] [(0, .rs 1000), (1, I k_3), (5, I i_4), (9, .bool (decide (i_4 < (a_2.length : Int))))] [(1000, .arr (List.map GTerm_O a_2))] (ai (lenT (d := 8) GTerm_O a_2) trivial) ?_
  refine seqQ_norm ?_
  rcases itesome h with ⟨hb_5, h⟩ | ⟨hb_5, h⟩
  ·refine cT ((decide (i_4 < (a_2.length : Int)))) hb_5 ?_
   refine Wp.skipN (by kernel_rfl) ?_
   refine seqQ_norm ?_
   refine sN ?_
   refine Wp.blockN (i := 1) (by kernel_rfl) ?_
   refine sN ?_
   obtain ⟨e_4_3, hi_4_3, h⟩ := bsome h
   refine rg hc none [oN, oN, oN, oN, oN, some (.eqv (.el (qTerm e_4_3)) ⟨[], [(1000, some (.arr (List.map GTerm_O (List.set a_2 (Int.toNat i_4) (GTerm.mk k_3 e_4_3.fN e_4_3.fType e_4_3.fKids)))))], []⟩)] [(0, .rs 1000), (1, I k_3), (5, I i_4)] [(1000, .arr (List.map GTerm_O (List.set a_2 (Int.toNat i_4) (GTerm.mk k_3 e_4_3.fN e_4_3.fType e_4_3.fKids))))] (ai (idx_own (enc := GTerm_O) hi_4_3) (ai (congrArg (fun z => (⟨[], [(1000, some (.arr z))], []⟩ : Wr)) (set_row (enc := GTerm_O) (i := Int.toNat i_4) (l := a_2) (v := (GTerm.mk k_3 e_4_3.fN e_4_3.fType e_4_3.fKids)) (x := AV.agg [I k_3, I e_4_3.fN, .osl (List.map I e_4_3.fType), .osl (List.map GTerm_O e_4_3.fKids)]) (eq_GTerm_O (GTerm.mk k_3 e_4_3.fN e_4_3.fType e_4_3.fKids)))) (ai (idx_sl (enc := GTerm_O) (x := qTerm e_4_3) hi_4_3 (eq_GTerm_O e_4_3)).2 trivial))) ?_
   refine seqQ_norm ?_
   refine sN ?_
   refine rg0 hc 3 [(0, .rs 1000), (1, I (wr (k_3 + 1))), (5, I i_4)] [(1000, .arr (List.map GTerm_O (List.set a_2 (Int.toNat i_4) (GTerm.mk k_3 e_4_3.fN e_4_3.fType e_4_3.fKids))))] ?_
   refine seqQ_norm ?_
   refine sN ?_
   obtain ⟨e_6_3, hi_6_3, h⟩ := bsome h
   refine rg hc none [oN, oN, oN, oN, oN, some (.eqv (.el (qTerm e_6_3)) ⟨[], [(1000, some (.arr (List.map GTerm_O (List.set (List.set a_2 (Int.toNat i_4) (GTerm.mk k_3 e_4_3.fN e_4_3.fType e_4_3.fKids)) (Int.toNat i_4) (GTerm.mk e_6_3.fOp (wr (k_3 + 1)) e_6_3.fType e_6_3.fKids)))))], []⟩)] [(0, .rs 1000), (1, I (wr (k_3 + 1))), (5, I i_4)] [(1000, .arr (List.map GTerm_O (List.set (List.set a_2 (Int.toNat i_4) (GTerm.mk k_3 e_4_3.fN e_4_3.fType e_4_3.fKids)) (Int.toNat i_4) (GTerm.mk e_6_3.fOp (wr (k_3 + 1)) e_6_3.fType e_6_3.fKids))))] (ai (idx_own (enc := GTerm_O) hi_6_3) (ai (congrArg (fun z => (⟨[], [(1000, some (.arr z))], []⟩ : Wr)) (set_row (enc := GTerm_O) (i := Int.toNat i_4) (l := (List.set a_2 (Int.toNat i_4) (GTerm.mk k_3 e_4_3.fN e_4_3.fType e_4_3.fKids))) (v := (GTerm.mk e_6_3.fOp (wr (k_3 + 1)) e_6_3.fType e_6_3.fKids)) (x := AV.agg [I e_6_3.fOp, I (wr (k_3 + 1)), .osl (List.map I e_6_3.fType), .osl (List.map GTerm_O e_6_3.fKids)]) (eq_GTerm_O (GTerm.mk e_6_3.fOp (wr (k_3 + 1)) e_6_3.fType e_6_3.fKids)))) (ai (idx_sl (enc := GTerm_O) (x := qTerm e_6_3) hi_6_3 (eq_GTerm_O e_6_3)).2 trivial))) ?_
   refine seqQ_norm ?_
   refine sN ?_
   refine rg0 hc 3 [(0, .rs 1000), (1, I (wr ((wr (k_3 + 1)) + 1))), (5, I i_4)] [(1000, .arr (List.map GTerm_O (List.set (List.set a_2 (Int.toNat i_4) (GTerm.mk k_3 e_4_3.fN e_4_3.fType e_4_3.fKids)) (Int.toNat i_4) (GTerm.mk e_6_3.fOp (wr (k_3 + 1)) e_6_3.fType e_6_3.fKids))))] ?_
   refine seqQ_norm ?_
   refine sN ?_
   obtain ⟨e_8_x, hx_8_x, h⟩ := bsome h
   refine Wp.view (fun a w hv => SRx.openL 1000 (Int.toNat i_4) 2 3 [3, 1000] (xs := List.map GTerm_O (List.set (List.set a_2 (Int.toNat i_4) (GTerm.mk k_3 e_4_3.fN e_4_3.fType e_4_3.fKids)) (Int.toNat i_4) (GTerm.mk e_6_3.fOp (wr (k_3 + 1)) e_6_3.fType e_6_3.fKids))) (ys := List.map I e_8_x.fType) (x0 := qTerm e_8_x) hv (by kernel_rfl) (idx_sl (enc := GTerm_O) (x := qTerm e_8_x) hx_8_x (eq_GTerm_O e_8_x)).2 (by kernel_rfl) (by kernel_rfl) (by kernel_rfl)) (?_ : Wp Try.prog c _ _ (mkS [(0, .rs 1000), (1, I (wr ((wr (k_3 + 1)) + 1))), (5, I i_4)] [(3, .arr (List.map I e_8_x.fType)), (1000, .arx (List.map GTerm_O (List.set (List.set a_2 (Int.toNat i_4) (GTerm.mk k_3 e_4_3.fN e_4_3.fType e_4_3.fKids)) (Int.toNat i_4) (GTerm.mk e_6_3.fOp (wr (k_3 + 1)) e_6_3.fType e_6_3.fKids))) (Int.toNat i_4) 2 3)]))
   obtain ⟨⟨r_8_6, o_8_6_0⟩, hr_8_6, h⟩ := bsome h
   refine rg hc none [oN, oN, oN, oN, some (.el (qTerm e_8_x)), oN, some (.call (I r_8_6) [.osl (List.map I o_8_6_0), .undef] 1), oN] [(0, .rs 1000), (1, I r_8_6), (5, I i_4)] [(3, .arr (List.map I o_8_6_0)), (1000, .arx (List.map GTerm_O (List.set (List.set a_2 (Int.toNat i_4) (GTerm.mk k_3 e_4_3.fN e_4_3.fType e_4_3.fKids)) (Int.toNat i_4) (GTerm.mk e_6_3.fOp (wr (k_3 + 1)) e_6_3.fType e_6_3.fKids))) (Int.toNat i_4) 2 3)] (ai (idx_own (enc := GTerm_O) hx_8_x) (ai (And.intro (idx_sl (enc := GTerm_O) (x := qTerm e_8_x) hx_8_x (eq_GTerm_O e_8_x)).2 (rfl : Int.toNat i_4 = Int.toNat i_4)) (ai (laws_markIntS_s _ _ hr_8_6) (ai bod_29 trivial)))) ?_
   refine seqQ_norm ?_
   refine Wp.view (fun a w hv => SRx.closeL 1000 (Int.toNat i_4) 2 3 [1000] (xs := List.map GTerm_O (List.set (List.set a_2 (Int.toNat i_4) (GTerm.mk k_3 e_4_3.fN e_4_3.fType e_4_3.fKids)) (Int.toNat i_4) (GTerm.mk e_6_3.fOp (wr (k_3 + 1)) e_6_3.fType e_6_3.fKids))) (ys := List.map I o_8_6_0) (x0 := qTerm e_8_x) (x1 := AV.agg [I e_8_x.fOp, I e_8_x.fN, .osl (List.map I o_8_6_0), .osl (List.map GTerm_O e_8_x.fKids)]) hv (by kernel_rfl) (by kernel_rfl) (by kernel_rfl) (idx_sl (enc := GTerm_O) (x := qTerm e_8_x) hx_8_x (eq_GTerm_O e_8_x)).2 (by kernel_rfl) (by kernel_rfl : _ = AV.agg [I e_8_x.fOp, I e_8_x.fN, .osl (List.map I o_8_6_0), .osl (List.map GTerm_O e_8_x.fKids)]) (set_row (enc := GTerm_O) (i := Int.toNat i_4) (l := (List.set (List.set a_2 (Int.toNat i_4) (GTerm.mk k_3 e_4_3.fN e_4_3.fType e_4_3.fKids)) (Int.toNat i_4) (GTerm.mk e_6_3.fOp (wr (k_3 + 1)) e_6_3.fType e_6_3.fKids))) (v := (GTerm.mk e_8_x.fOp e_8_x.fN o_8_6_0 e_8_x.fKids)) (x := AV.agg [I e_8_x.fOp, I e_8_x.fN, .osl (List.map I o_8_6_0), .osl (List.map GTerm_O e_8_x.fKids)]) (eq_GTerm_O (GTerm.mk e_8_x.fOp e_8_x.fN o_8_6_0 e_8_x.fKids))) (by kernel_rfl)) (?_ : Wp Try.prog c _ _ (mkS [(0, .rs 1000), (1, I r_8_6), (5, I i_4)] [(1000, .arr (List.map GTerm_O (List.set (List.set (List.set a_2 (Int.toNat i_4) (GTerm.mk k_3 e_4_3.fN e_4_3.fType e_4_3.fKids)) (Int.toNat i_4) (GTerm.mk e_6_3.fOp (wr (k_3 + 1)) e_6_3.fType e_6_3.fKids)) (Int.toNat i_4) (GTerm.mk e_8_x.fOp e_8_x.fN o_8_6_0 e_8_x.fKids))))]))
   obtain ⟨e_9_x, hx_9_x, h⟩ := bsome h
   refine Wp.view (fun a w hv => SRx.openL 1000 (Int.toNat i_4) 3 4 [4, 1000] (xs := List.map GTerm_O (List.set (List.set (List.set a_2 (Int.toNat i_4) (GTerm.mk k_3 e_4_3.fN e_4_3.fType e_4_3.fKids)) (Int.toNat i_4) (GTerm.mk e_6_3.fOp (wr (k_3 + 1)) e_6_3.fType e_6_3.fKids)) (Int.toNat i_4) (GTerm.mk e_8_x.fOp e_8_x.fN o_8_6_0 e_8_x.fKids))) (ys := List.map GTerm_O e_9_x.fKids) (x0 := qTerm e_9_x) hv (by kernel_rfl) (idx_sl (enc := GTerm_O) (x := qTerm e_9_x) hx_9_x (eq_GTerm_O e_9_x)).2 (by kernel_rfl) (by kernel_rfl) (by kernel_rfl)) (?_ : Wp Try.prog c _ _ (mkS [(0, .rs 1000), (1, I r_8_6), (5, I i_4)] [(4, .arr (List.map GTerm_O e_9_x.fKids)), (1000, .arx (List.map GTerm_O (List.set (List.set (List.set a_2 (Int.toNat i_4) (GTerm.mk k_3 e_4_3.fN e_4_3.fType e_4_3.fKids)) (Int.toNat i_4) (GTerm.mk e_6_3.fOp (wr (k_3 + 1)) e_6_3.fType e_6_3.fKids)) (Int.toNat i_4) (GTerm.mk e_8_x.fOp e_8_x.fN o_8_6_0 e_8_x.fKids))) (Int.toNat i_4) 3 4)]))
   obtain ⟨⟨r_9_6, o_9_6_0⟩, hr_9_6, h⟩ := bsome h
   refine rg hc none [oN, oN, oN, oN, some (.el (qTerm e_9_x)), oN, some (.call (I r_9_6) [.osl (List.map GTerm_O o_9_6_0), .undef] 1), oN] [(0, .rs 1000), (1, I r_9_6), (5, I i_4)] [(4, .arr (List.map GTerm_O o_9_6_0)), (1000, .arx (List.map GTerm_O (List.set (List.set (List.set a_2 (Int.toNat i_4) (GTerm.mk k_3 e_4_3.fN e_4_3.fType e_4_3.fKids)) (Int.toNat i_4) (GTerm.mk e_6_3.fOp (wr (k_3 + 1)) e_6_3.fType e_6_3.fKids)) (Int.toNat i_4) (GTerm.mk e_8_x.fOp e_8_x.fN o_8_6_0 e_8_x.fKids))) (Int.toNat i_4) 3 4)] (ai (idx_own (enc := GTerm_O) hx_9_x) (ai (And.intro (idx_sl (enc := GTerm_O) (x := qTerm e_9_x) hx_9_x (eq_GTerm_O e_9_x)).2 (rfl : Int.toNat i_4 = Int.toNat i_4)) (ai (laws_markTermS_ih _ _ hr_9_6) (ai bod_53 trivial)))) ?_
   refine blockQ_norm ?_
   refine seqQ_norm ?_
   refine Wp.view (fun a w hv => SRx.closeL 1000 (Int.toNat i_4) 3 4 [1000] (xs := List.map GTerm_O (List.set (List.set (List.set a_2 (Int.toNat i_4) (GTerm.mk k_3 e_4_3.fN e_4_3.fType e_4_3.fKids)) (Int.toNat i_4) (GTerm.mk e_6_3.fOp (wr (k_3 + 1)) e_6_3.fType e_6_3.fKids)) (Int.toNat i_4) (GTerm.mk e_8_x.fOp e_8_x.fN o_8_6_0 e_8_x.fKids))) (ys := List.map GTerm_O o_9_6_0) (x0 := qTerm e_9_x) (x1 := AV.agg [I e_9_x.fOp, I e_9_x.fN, .osl (List.map I e_9_x.fType), .osl (List.map GTerm_O o_9_6_0)]) hv (by kernel_rfl) (by kernel_rfl) (by kernel_rfl) (idx_sl (enc := GTerm_O) (x := qTerm e_9_x) hx_9_x (eq_GTerm_O e_9_x)).2 (by kernel_rfl) (by kernel_rfl : _ = AV.agg [I e_9_x.fOp, I e_9_x.fN, .osl (List.map I e_9_x.fType), .osl (List.map GTerm_O o_9_6_0)]) (set_row (enc := GTerm_O) (i := Int.toNat i_4) (l := (List.set (List.set (List.set a_2 (Int.toNat i_4) (GTerm.mk k_3 e_4_3.fN e_4_3.fType e_4_3.fKids)) (Int.toNat i_4) (GTerm.mk e_6_3.fOp (wr (k_3 + 1)) e_6_3.fType e_6_3.fKids)) (Int.toNat i_4) (GTerm.mk e_8_x.fOp e_8_x.fN o_8_6_0 e_8_x.fKids))) (v := (GTerm.mk e_9_x.fOp e_9_x.fN e_9_x.fType o_9_6_0)) (x := AV.agg [I e_9_x.fOp, I e_9_x.fN, .osl (List.map I e_9_x.fType), .osl (List.map GTerm_O o_9_6_0)]) (eq_GTerm_O (GTerm.mk e_9_x.fOp e_9_x.fN e_9_x.fType o_9_6_0))) (by kernel_rfl)) (?_ : Wp Try.prog c _ _ (mkS [(0, .rs 1000), (1, I r_9_6), (5, I i_4)] [(1000, .arr (List.map GTerm_O (List.set (List.set (List.set (List.set a_2 (Int.toNat i_4) (GTerm.mk k_3 e_4_3.fN e_4_3.fType e_4_3.fKids)) (Int.toNat i_4) (GTerm.mk e_6_3.fOp (wr (k_3 + 1)) e_6_3.fType e_6_3.fKids)) (Int.toNat i_4) (GTerm.mk e_8_x.fOp e_8_x.fN o_8_6_0 e_8_x.fKids)) (Int.toNat i_4) (GTerm.mk e_9_x.fOp e_9_x.fN e_9_x.fType o_9_6_0))))]))
   refine rg0 hc 3 [(0, .rs 1000), (1, I r_9_6), (5, I (wr (i_4 + 1)))] [(1000, .arr (List.map GTerm_O (List.set (List.set (List.set (List.set a_2 (Int.toNat i_4) (GTerm.mk k_3 e_4_3.fN e_4_3.fType e_4_3.fKids)) (Int.toNat i_4) (GTerm.mk e_6_3.fOp (wr (k_3 + 1)) e_6_3.fType e_6_3.fKids)) (Int.toNat i_4) (GTerm.mk e_8_x.fOp e_8_x.fN o_8_6_0 e_8_x.fKids)) (Int.toNat i_4) (GTerm.mk e_9_x.fOp e_9_x.fN e_9_x.fType o_9_6_0))))] ?_
   refine loopQ_norm ?_
   exact (laws_markTermS_l0_ih _ _ h c hc)
  ·refine cF ((decide (i_4 < (a_2.length : Int)))) hb_5 ?_
   refine Wp.exitN (i := 0) (by kernel_rfl) ?_
   refine seqQ_exit ?_
   refine loopQ_exit ?_
   obtain ⟨rfl, rfl⟩ := Prod.mk.inj (Option.some.inj h)
   exact Into.view (fun a w hv => SRx.renL [] hv (by kernel_rfl) (by kernel_rfl) (by kernel_rfl))
theorem laws_markTermS_s : ∀ p r, laws_markTermS p = some r → M_laws_markTermS p r := laws_markTermS_all.1
theorem laws_markTermS_l0_s : ∀ p r, laws_markTermS_l0 p = some r → M_laws_markTermS_l0 p r := laws_markTermS_all.2
def laws_markTerm (p : GTerm × Int) : Option (Int × GTerm) :=
 match p with
 | (a0, k1) =>
  (laws_markIntS (a0.fType, k1)) >>= fun (r_1_3, o_1_3_0) =>
  (laws_markTermS (a0.fKids, r_1_3)) >>= fun (r_2_3, o_2_3_0) =>
  some (r_2_3, (GTerm.mk a0.fOp a0.fN o_1_3_0 o_2_3_0))
def M_laws_markTerm (p : GTerm × Int) (r : Int × GTerm) : Prop :=
 match p with
 | (a0, k1) => FnSound Try.prog 22 [qTerm a0, I k1] (I r.1) [.agg [.undef, .undef, .osl (List.map I r.2.fType), .osl (List.map GTerm_O r.2.fKids)], .undef]
theorem laws_markTerm_s : ∀ p r, laws_markTerm p = some r → M_laws_markTerm p r := by
 rintro ⟨a0, k1⟩ r h
 unfold laws_markTerm at h
 show FnSound Try.prog 22 [qTerm a0, I k1] (I r.1) [.agg [.undef, .undef, .osl (List.map I r.2.fType), .osl (List.map GTerm_O r.2.fKids)], .undef]
 refine FnSound.bodyO tiok (fn := Try.f22) (code := B22) (by kernel_rfl) (by kernel_rfl) (by kernel_rfl) (nt := 14) (by kernel_rfl) (by kernel_rfl) (T := [(0, .agg [I a0.fOp, I a0.fN, .rs 1000, .rs 1001]), (1, I k1)]) (O := [(1000, .arr (List.map I a0.fType)), (1001, .arr (List.map GTerm_O a0.fKids))]) (by kernel_rfl) (by kernel_rfl) (fun c hc => ?_)
 refine sN ?_
 refine rg hc none [some (.new 1), oN] [(1, I k1), (2, .ra 1 0)] [(1, .box [I a0.fOp, I a0.fN, .rs 1000, .rs 1001]), (1000, .arr (List.map I a0.fType)), (1001, .arr (List.map GTerm_O a0.fKids))] trivial ?_
 refine seqQ_norm ?_
 refine sN ?_
 obtain ⟨⟨r_1_3, o_1_3_0⟩, hr_1_3, h⟩ := bsome h
 refine rg hc none [oN, oN, oN, some (.call (I r_1_3) [.osl (List.map I o_1_3_0), .undef] 1), oN] [(1, I r_1_3), (2, .ra 1 0)] [(1, .box [I a0.fOp, I a0.fN, .rs 1000, .rs 1001]), (1000, .arr (List.map I o_1_3_0)), (1001, .arr (List.map GTerm_O a0.fKids))] (ai (laws_markIntS_s _ _ hr_1_3) (ai bod_29 trivial)) ?_
 refine seqQ_norm ?_
 refine sN ?_
 obtain ⟨⟨r_2_3, o_2_3_0⟩, hr_2_3, h⟩ := bsome h
 refine rg hc none [oN, oN, oN, some (.call (I r_2_3) [.osl (List.map GTerm_O o_2_3_0), .undef] 1), oN] [(1, I r_2_3)] [(1000, .arr (List.map I o_1_3_0)), (1001, .arr (List.map GTerm_O o_2_3_0))] (ai (laws_markTermS_s _ _ hr_2_3) (ai bod_53 trivial)) ?_
 refine seqQ_norm ?_
 refine sN ?_
 refine rg0 hc 2 [(4, I r_2_3)] [(1000, .arr (List.map I o_1_3_0)), (1001, .arr (List.map GTerm_O o_2_3_0))] ?_
 refine seqQ_norm ?_
 refine Wp.retN (by kernel_rfl) ?_
 obtain rfl := Option.some.inj h
 exact RetOQ.ret (fl := [true]) (by kernel_rfl)
def laws_heldIntS_F1 (c : Ctx) : (Int) ⊕ (Int) → Exit → AState → Prop
 | .inl k_7 => Into c (.exit 0) (mkS [(1, I k_7)] [])
 | .inr r => RetE TIx Try.f54 [] (I r)
def laws_heldIntS_l0 (p : (List Int) × Int × Int) : Option ((Int) ⊕ (Int)) :=
 match p with
 | (a0, k_3, i_4) =>
  if (decide (i_4 < (a0.length : Int))) = true then
   (idx a0 i_4) >>= fun e_4_2 =>
   if (e_4_2 != k_3) = true then
    some (.inr (-1))
   else
    laws_heldIntS_l0 (a0, (wr (k_3 + 1)), (wr (i_4 + 1)))
  else
   some (.inl k_3)
 partial_fixpoint
def M_laws_heldIntS_l0 (p : (List Int) × Int × Int) (fl : (Int) ⊕ (Int)) : Prop :=
 match p with
 | (a0, k_3, i_4) => ∀ c : Ctx, c.nt = 21 → WpL Try.prog c (cl (cl (cr (cl (cr B54))))) (laws_heldIntS_F1 c fl) (mkS [(0, sI a0), (1, I k_3), (5, I i_4)] [])
theorem laws_heldIntS_l0_s : ∀ p r, laws_heldIntS_l0 p = some r → M_laws_heldIntS_l0 p r := by
 refine laws_heldIntS_l0.partial_correctness M_laws_heldIntS_l0 ?_
 rintro laws_heldIntS_l0_f laws_heldIntS_l0_ih ⟨a0, k_3, i_4⟩ r h
 intro c hc
 show WpL Try.prog c (cl (cl (cr (cl (cr B54))))) (laws_heldIntS_F1 c r) (mkS [(0, sI a0), (1, I k_3), (5, I i_4)] [])
 refine WpL.step ?_
 refine sN ?_
 refine sN ?_
 refine rg hc none [oN, oN, some (.eqv (.no) ⟨[(8, I (a0.length : Int))], [], []⟩), oN] [(0, sI a0), (1, I k_3), (5, I i_4), (9, .bool (decide (i_4 < (a0.length : Int))))] [] (ai (lenT (d := 8) I a0) trivial) ?_
 refine seqQ_norm ?_
 rcases itesome h with ⟨hb_5, h⟩ | ⟨hb_5, h⟩
 ·refine cT ((decide (i_4 < (a0.length : Int)))) hb_5 ?_
  refine Wp.skipN (by kernel_rfl) ?_
  refine seqQ_norm ?_
  refine sN ?_
  refine Wp.blockN (i := 1) (by kernel_rfl) ?_
  refine sN ?_
  refine sN ?_
  obtain ⟨e_4_2, hi_4_2, h⟩ := bsome h
  refine rg hc none [oN, oN, some (.el (I e_4_2)), oN, oN, oN] [(0, sI a0), (1, I k_3), (5, I i_4), (17, .bool (e_4_2 != k_3))] [] (ai (ix hi_4_2) trivial) ?_
  refine seqQ_norm ?_
  rcases itesome h with ⟨hb_6, h⟩ | ⟨hb_6, h⟩
  ·refine cT ((e_4_2 != k_3)) hb_6 ?_
   refine sN ?_
   refine rg0 hc 1 [(4, I (-1))] [] ?_
   refine seqQ_norm ?_
   refine Wp.retN (by kernel_rfl) ?_
   refine seqQ_ret ?_
   refine blockQ_ret ?_
   refine seqQ_ret ?_
   refine loopQ_ret ?_
   obtain rfl := Option.some.inj h
   exact RetE.ret (fl := [true]) (by kernel_rfl)
  ·refine cF ((e_4_2 != k_3)) hb_6 ?_
   refine Wp.skipN (by kernel_rfl) ?_
   refine seqQ_norm ?_
   refine rg0 hc 3 [(0, sI a0), (1, I (wr (k_3 + 1))), (5, I i_4)] [] ?_
   refine blockQ_norm ?_
   refine seqQ_norm ?_
   refine rg0 hc 3 [(0, sI a0), (1, I (wr (k_3 + 1))), (5, I (wr (i_4 + 1)))] [] ?_
   refine loopQ_norm ?_
   exact (laws_heldIntS_l0_ih _ _ h c hc)
 ·refine cF ((decide (i_4 < (a0.length : Int)))) hb_5 ?_
  refine Wp.exitN (i := 0) (by kernel_rfl) ?_
  refine seqQ_exit ?_
  refine loopQ_exit ?_
  obtain rfl := Option.some.inj h
  exact Into.view (fun a w hv => SRx.renL [] hv (by kernel_rfl) (by kernel_rfl) (by kernel_rfl))
def laws_heldIntS (p : (List Int) × Int) : Option (Int) :=
 match p with
 | (a0, k1) =>
  (laws_heldIntS_l0 (a0, k1, 0)) >>= fun fl => match fl with
  | .inl k_7 =>
   some k_7
  | .inr r =>
   some r
def M_laws_heldIntS (p : (List Int) × Int) (r : Int) : Prop :=
 match p with
 | (a0, k1) => FnSound Try.prog 54 [sI a0, I k1] (I r) []
theorem laws_heldIntS_s : ∀ p r, laws_heldIntS p = some r → M_laws_heldIntS p r := by
 rintro ⟨a0, k1⟩ r h
 unfold laws_heldIntS at h
 show FnSound Try.prog 54 [sI a0, I k1] (I r) []
 refine FnSound.body0 tiok (fn := Try.f54) (code := B54) (by kernel_rfl) (by kernel_rfl) (by kernel_rfl) (by kernel_rfl) (nt := 21) (by kernel_rfl) (by kernel_rfl) (T := [(0, sI a0), (1, I k1)]) (O := []) (by kernel_rfl) (by kernel_rfl) (fun c hc => ?_)
 refine sN ?_
 refine rg0 hc 1 [(0, sI a0), (1, I k1)] [] ?_
 refine seqQ_norm ?_
 refine sN ?_
 refine sN ?_
 refine rg0 hc 1 [(0, sI a0), (1, I k1), (5, I 0)] [] ?_
 refine seqQ_norm ?_
 refine Wp.blockN (i := 0) (by kernel_rfl) ?_
 obtain ⟨fl, hl_8, h⟩ := bsome h
 have hL := laws_heldIntS_l0_s _ _ hl_8 c hc
 refine Wp.loopN (by kernel_rfl) ?_
 rcases fl with k_7 | r
 ·refine WpL.into (e := (.exit 0)) (mkS [(1, I k_7)] []) hL ?_
  refine blockQ_hit ?_
  refine seqQ_norm ?_
  refine sN ?_
  refine rg0 hc 2 [(4, I k_7)] [] ?_
  refine seqQ_norm ?_
  refine Wp.retN (by kernel_rfl) ?_
  obtain rfl := Option.some.inj h
  exact RetQ.ret (fl := [true]) (by kernel_rfl)
 ·refine WpL.mono hL ?_
  rintro _ _ ⟨rfl, hfin⟩
  refine blockQ_ret ?_
  refine seqQ_ret ?_
  obtain rfl := Option.some.inj h
  exact ⟨.inl rfl, hfin⟩
def laws_heldTermS_F1 (c : Ctx) : (Int) ⊕ (Int) → Exit → AState → Prop
 | .inl k_13 => Into c (.exit 0) (mkS [(1, I k_13)] [])
 | .inr r => RetE TIx Try.f55 [] (I r)
mutual
def laws_heldTermS (p : (List GTerm) × Int) : Option (Int) :=
 match p with
 | (a0, k1) =>
  (laws_heldTermS_l0 (a0, k1, 0)) >>= fun fl => match fl with
  | .inl k_13 =>
   some k_13
  | .inr r =>
   some r
 partial_fixpoint
def laws_heldTermS_l0 (p : (List GTerm) × Int × Int) : Option ((Int) ⊕ (Int)) :=
 match p with
 | (a0, k_6, i_7) =>
  if (decide (i_7 < (a0.length : Int))) = true then
   (idx a0 i_7) >>= fun e_4_2 =>
   if (e_4_2.fOp != k_6) = true then
    some (.inr (-1))
   else
    (idx a0 i_7) >>= fun e_7_2 =>
    if (e_7_2.fN != (wr (k_6 + 1))) = true then
     some (.inr (-1))
    else
     (idx a0 i_7) >>= fun e_10_2 =>
     (laws_heldIntS (e_10_2.fType, (wr ((wr (k_6 + 1)) + 1)))) >>= fun r_10_6 =>
     if (decide (r_10_6 < 0)) = true then
      some (.inr (-1))
     else
      (idx a0 i_7) >>= fun e_13_2 =>
      (laws_heldTermS (e_13_2.fKids, r_10_6)) >>= fun r_13_6 =>
      if (decide (r_13_6 < 0)) = true then
       some (.inr (-1))
      else
       laws_heldTermS_l0 (a0, r_13_6, (wr (i_7 + 1)))
  else
   some (.inl k_6)
 partial_fixpoint
end
def M_laws_heldTermS (p : (List GTerm) × Int) (r : Int) : Prop :=
 match p with
 | (a0, k1) => FnSound Try.prog 55 [.sl (List.map GTerm_S a0), I k1] (I r) []
def M_laws_heldTermS_l0 (p : (List GTerm) × Int × Int) (fl : (Int) ⊕ (Int)) : Prop :=
 match p with
 | (a0, k_6, i_7) => ∀ c : Ctx, c.nt = 49 → WpL Try.prog c (cl (cl (cr (cl (cr B55))))) (laws_heldTermS_F1 c fl) (mkS [(0, .sl (List.map GTerm_S a0)), (1, I k_6), (5, I i_7)] [])
theorem laws_heldTermS_all : (∀ p r, laws_heldTermS p = some r → M_laws_heldTermS p r) ∧ (∀ p r, laws_heldTermS_l0 p = some r → M_laws_heldTermS_l0 p r) := by
 refine laws_heldTermS.mutual_partial_correctness M_laws_heldTermS M_laws_heldTermS_l0 ?_ ?_
 ·rintro laws_heldTermS_l0_f laws_heldTermS_l0_ih ⟨a0, k1⟩ r h
  show FnSound Try.prog 55 [.sl (List.map GTerm_S a0), I k1] (I r) []
  refine FnSound.body0 tiok (fn := Try.f55) (code := B55) (by kernel_rfl) (by kernel_rfl) (by kernel_rfl) (by kernel_rfl) (nt := 49) (by kernel_rfl) (by kernel_rfl) (T := [(0, .sl (List.map GTerm_S a0)), (1, I k1)]) (O := []) (by kernel_rfl) (by kernel_rfl) (fun c hc => ?_)
  refine sN ?_
  refine rg0 hc 1 [(0, .sl (List.map GTerm_S a0)), (1, I k1)] [] ?_
  refine seqQ_norm ?_
  refine sN ?_
  refine sN ?_
  refine rg0 hc 1 [(0, .sl (List.map GTerm_S a0)), (1, I k1), (5, I 0)] [] ?_
  refine seqQ_norm ?_
  refine Wp.blockN (i := 0) (by kernel_rfl) ?_
  obtain ⟨fl, hl_14, h⟩ := bsome h
  have hL := laws_heldTermS_l0_ih _ _ hl_14 c hc
  refine Wp.loopN (by kernel_rfl) ?_
  rcases fl with k_13 | r
  ·refine WpL.into (e := (.exit 0)) (mkS [(1, I k_13)] []) hL ?_
   refine blockQ_hit ?_
   refine seqQ_norm ?_
   refine sN ?_
   refine rg0 hc 2 [(4, I k_13)] [] ?_
   refine seqQ_norm ?_
   refine Wp.retN (by kernel_rfl) ?_
   obtain rfl := Option.some.inj h
   exact RetQ.ret (fl := [true]) (by kernel_rfl)
  ·refine WpL.mono hL ?_
   rintro _ _ ⟨rfl, hfin⟩
   refine blockQ_ret ?_
   refine seqQ_ret ?_
   obtain rfl := Option.some.inj h
   exact ⟨.inl rfl, hfin⟩
 ·rintro laws_heldTermS_f laws_heldTermS_l0_f laws_heldTermS_ih laws_heldTermS_l0_ih ⟨a0, k_6, i_7⟩ r h
  intro c hc
  show WpL Try.prog c (cl (cl (cr (cl (cr B55))))) (laws_heldTermS_F1 c r) (mkS [(0, .sl (List.map GTerm_S a0)), (1, I k_6), (5, I i_7)] [])
  refine WpL.step ?_
  refine sN ?_
  refine sN ?_
  refine rg hc none [oN, oN, some (.eqv (.no) ⟨[(8, I (a0.length : Int))], [], []⟩), oN] [(0, .sl (List.map GTerm_S a0)), (1, I k_6), (5, I i_7), (9, .bool (decide (i_7 < (a0.length : Int))))] [] (ai (lenT (d := 8) GTerm_S a0) trivial) ?_
  refine seqQ_norm ?_
  rcases itesome h with ⟨hb_8, h⟩ | ⟨hb_8, h⟩
  ·refine cT ((decide (i_7 < (a0.length : Int)))) hb_8 ?_
   refine Wp.skipN (by kernel_rfl) ?_
   refine seqQ_norm ?_
   refine sN ?_
   refine Wp.blockN (i := 1) (by kernel_rfl) ?_
   refine sN ?_
   refine sN ?_
   obtain ⟨e_4_2, hi_4_2, h⟩ := bsome h
   refine rg hc none [oN, oN, some (.el (aTerm e_4_2)), oN, oN, oN, oN] [(0, .sl (List.map GTerm_S a0)), (1, I k_6), (5, I i_7), (18, .bool (e_4_2.fOp != k_6))] [] (ai (idx_sl (enc := GTerm_S) (x := aTerm e_4_2) hi_4_2 (eq_GTerm_S e_4_2)) trivial) ?_
   refine seqQ_norm ?_
   rcases itesome h with ⟨hb_9, h⟩ | ⟨hb_9, h⟩
   ·refine cT ((e_4_2.fOp != k_6)) hb_9 ?_
    refine sN ?_
    refine rg0 hc 1 [(4, I (-1))] [] ?_
    refine seqQ_norm ?_
    refine Wp.retN (by kernel_rfl) ?_
    refine seqQ_ret ?_
    refine blockQ_ret ?_
    refine seqQ_ret ?_
    refine loopQ_ret ?_
    obtain rfl := Option.some.inj h
    exact RetE.ret (fl := [true]) (by kernel_rfl)
   ·refine cF ((e_4_2.fOp != k_6)) hb_9 ?_
    refine Wp.skipN (by kernel_rfl) ?_
    refine seqQ_norm ?_
    refine sN ?_
    refine rg0 hc 3 [(0, .sl (List.map GTerm_S a0)), (1, I (wr (k_6 + 1))), (5, I i_7)] [] ?_
    refine seqQ_norm ?_
    refine sN ?_
    refine sN ?_
    obtain ⟨e_7_2, hi_7_2, h⟩ := bsome h
    refine rg hc none [oN, oN, some (.el (aTerm e_7_2)), oN, oN, oN, oN] [(0, .sl (List.map GTerm_S a0)), (1, I (wr (k_6 + 1))), (5, I i_7), (27, .bool (e_7_2.fN != (wr (k_6 + 1))))] [] (ai (idx_sl (enc := GTerm_S) (x := aTerm e_7_2) hi_7_2 (eq_GTerm_S e_7_2)) trivial) ?_
    refine seqQ_norm ?_
    rcases itesome h with ⟨hb_10, h⟩ | ⟨hb_10, h⟩
    ·refine cT ((e_7_2.fN != (wr (k_6 + 1)))) hb_10 ?_
     refine sN ?_
     refine rg0 hc 1 [(4, I (-1))] [] ?_
     refine seqQ_norm ?_
     refine Wp.retN (by kernel_rfl) ?_
     refine seqQ_ret ?_
     refine blockQ_ret ?_
     refine seqQ_ret ?_
     refine loopQ_ret ?_
     obtain rfl := Option.some.inj h
     exact RetE.ret (fl := [true]) (by kernel_rfl)
    ·refine cF ((e_7_2.fN != (wr (k_6 + 1)))) hb_10 ?_
     refine Wp.skipN (by kernel_rfl) ?_
     refine seqQ_norm ?_
     refine sN ?_
     refine rg0 hc 3 [(0, .sl (List.map GTerm_S a0)), (1, I (wr ((wr (k_6 + 1)) + 1))), (5, I i_7)] [] ?_
     refine seqQ_norm ?_
     refine sN ?_
     obtain ⟨e_10_2, hi_10_2, h⟩ := bsome h
     obtain ⟨r_10_6, hr_10_6, h⟩ := bsome h
     refine rg hc none [oN, oN, some (.el (aTerm e_10_2)), oN, oN, oN, oc (I r_10_6), oN] [(0, .sl (List.map GTerm_S a0)), (1, I r_10_6), (5, I i_7)] [] (ai (idx_sl (enc := GTerm_S) (x := aTerm e_10_2) hi_10_2 (eq_GTerm_S e_10_2)) (ai (laws_heldIntS_s _ _ hr_10_6) (ai bod_54 (ai (oi (I r_10_6)) trivial)))) ?_
     refine seqQ_norm ?_
     refine sN ?_
     refine sN ?_
     refine rg0 hc 2 [(0, .sl (List.map GTerm_S a0)), (1, I r_10_6), (5, I i_7), (38, .bool (decide (r_10_6 < 0)))] [] ?_
     refine seqQ_norm ?_
     rcases itesome h with ⟨hb_11, h⟩ | ⟨hb_11, h⟩
     ·refine cT ((decide (r_10_6 < 0))) hb_11 ?_
      refine sN ?_
      refine rg0 hc 1 [(4, I (-1))] [] ?_
      refine seqQ_norm ?_
      refine Wp.retN (by kernel_rfl) ?_
      refine seqQ_ret ?_
      refine blockQ_ret ?_
      refine seqQ_ret ?_
      refine loopQ_ret ?_
      obtain rfl := Option.some.inj h
      exact RetE.ret (fl := [true]) (by kernel_rfl)
     ·refine cF ((decide (r_10_6 < 0))) hb_11 ?_
      refine Wp.skipN (by kernel_rfl) ?_
      refine seqQ_norm ?_
      refine sN ?_
      obtain ⟨e_13_2, hi_13_2, h⟩ := bsome h
      obtain ⟨r_13_6, hr_13_6, h⟩ := bsome h
      refine rg hc none [oN, oN, some (.el (aTerm e_13_2)), oN, oN, oN, oc (I r_13_6), oN] [(0, .sl (List.map GTerm_S a0)), (1, I r_13_6), (5, I i_7)] [] (ai (idx_sl (enc := GTerm_S) (x := aTerm e_13_2) hi_13_2 (eq_GTerm_S e_13_2)) (ai (laws_heldTermS_ih _ _ hr_13_6) (ai bod_55 (ai (oi (I r_13_6)) trivial)))) ?_
      refine seqQ_norm ?_
      refine sN ?_
      refine rg0 hc 2 [(0, .sl (List.map GTerm_S a0)), (1, I r_13_6), (5, I i_7), (47, .bool (decide (r_13_6 < 0)))] [] ?_
      refine seqQ_norm ?_
      rcases itesome h with ⟨hb_12, h⟩ | ⟨hb_12, h⟩
      ·refine cT ((decide (r_13_6 < 0))) hb_12 ?_
       refine sN ?_
       refine rg0 hc 1 [(4, I (-1))] [] ?_
       refine seqQ_norm ?_
       refine Wp.retN (by kernel_rfl) ?_
       refine blockQ_ret ?_
       refine seqQ_ret ?_
       refine loopQ_ret ?_
       obtain rfl := Option.some.inj h
       exact RetE.ret (fl := [true]) (by kernel_rfl)
      ·refine cF ((decide (r_13_6 < 0))) hb_12 ?_
       refine Wp.skipN (by kernel_rfl) ?_
       refine blockQ_norm ?_
       refine seqQ_norm ?_
       refine rg0 hc 3 [(0, .sl (List.map GTerm_S a0)), (1, I r_13_6), (5, I (wr (i_7 + 1)))] [] ?_
       refine loopQ_norm ?_
       exact (laws_heldTermS_l0_ih _ _ h c hc)
  ·refine cF ((decide (i_7 < (a0.length : Int)))) hb_8 ?_
   refine Wp.exitN (i := 0) (by kernel_rfl) ?_
   refine seqQ_exit ?_
   refine loopQ_exit ?_
   obtain rfl := Option.some.inj h
   exact Into.view (fun a w hv => SRx.renL [] hv (by kernel_rfl) (by kernel_rfl) (by kernel_rfl))
theorem laws_heldTermS_s : ∀ p r, laws_heldTermS p = some r → M_laws_heldTermS p r := laws_heldTermS_all.1
theorem laws_heldTermS_l0_s : ∀ p r, laws_heldTermS_l0 p = some r → M_laws_heldTermS_l0 p r := laws_heldTermS_all.2
def laws_heldTerm (p : GTerm × Int) : Option (Int) :=
 match p with
 | (a0, k1) =>
  (laws_heldIntS (a0.fType, k1)) >>= fun r_1_3 =>
  if (decide (r_1_3 < 0)) = true then
   some (-1)
  else
   (laws_heldTermS (a0.fKids, r_1_3)) >>= fun r_4_3 =>
   if (decide (r_4_3 < 0)) = true then
    some (-1)
   else
    some r_4_3
def M_laws_heldTerm (p : GTerm × Int) (r : Int) : Prop :=
 match p with
 | (a0, k1) => FnSound Try.prog 23 [aTerm a0, I k1] (I r) []
theorem laws_heldTerm_s : ∀ p r, laws_heldTerm p = some r → M_laws_heldTerm p r := by
 rintro ⟨a0, k1⟩ r h
 unfold laws_heldTerm at h
 show FnSound Try.prog 23 [aTerm a0, I k1] (I r) []
 refine FnSound.body0 tiok (fn := Try.f23) (code := B23) (by kernel_rfl) (by kernel_rfl) (by kernel_rfl) (by kernel_rfl) (nt := 18) (by kernel_rfl) (by kernel_rfl) (T := [(0, aTerm a0), (1, I k1)]) (O := []) (by kernel_rfl) (by kernel_rfl) (fun c hc => ?_)
 refine sN ?_
 refine rg hc none [some (.new 1), oN] [(1, I k1), (2, .ra 1 0)] [(1, bTerm a0)] trivial ?_
 refine seqQ_norm ?_
 refine sN ?_
 obtain ⟨r_1_3, hr_1_3, h⟩ := bsome h
 refine rg hc none [oN, oN, oN, oc (I r_1_3), oN] [(1, I r_1_3), (2, .ra 1 0)] [(1, bTerm a0)] (ai (laws_heldIntS_s _ _ hr_1_3) (ai bod_54 (ai (oi (I r_1_3)) trivial))) ?_
 refine seqQ_norm ?_
 refine sN ?_
 refine sN ?_
 refine rg0 hc 2 [(1, I r_1_3), (2, .ra 1 0), (10, .bool (decide (r_1_3 < 0)))] [(1, bTerm a0)] ?_
 refine seqQ_norm ?_
 rcases itesome h with ⟨hb_1, h⟩ | ⟨hb_1, h⟩
 ·refine cT ((decide (r_1_3 < 0))) hb_1 ?_
  refine sN ?_
  refine rg0 hc 1 [(4, I (-1))] [] ?_
  refine seqQ_norm ?_
  refine Wp.retN (by kernel_rfl) ?_
  refine seqQ_ret ?_
  obtain rfl := Option.some.inj h
  exact RetQ.ret (fl := [true]) (by kernel_rfl)
 ·refine cF ((decide (r_1_3 < 0))) hb_1 ?_
  refine Wp.skipN (by kernel_rfl) ?_
  refine seqQ_norm ?_
  refine sN ?_
  obtain ⟨r_4_3, hr_4_3, h⟩ := bsome h
  refine rg hc none [oN, oN, oN, oc (I r_4_3), oN] [(1, I r_4_3)] [] (ai (laws_heldTermS_s _ _ hr_4_3) (ai bod_55 (ai (oi (I r_4_3)) trivial))) ?_
  refine seqQ_norm ?_
  refine sN ?_
  refine sN ?_
  refine rg0 hc 2 [(1, I r_4_3), (16, .bool (decide (r_4_3 < 0)))] [] ?_
  refine seqQ_norm ?_
  rcases itesome h with ⟨hb_2, h⟩ | ⟨hb_2, h⟩
  ·refine cT ((decide (r_4_3 < 0))) hb_2 ?_
   refine sN ?_
   refine rg0 hc 1 [(4, I (-1))] [] ?_
   refine seqQ_norm ?_
   refine Wp.retN (by kernel_rfl) ?_
   refine seqQ_ret ?_
   obtain rfl := Option.some.inj h
   exact RetQ.ret (fl := [true]) (by kernel_rfl)
  ·refine cF ((decide (r_4_3 < 0))) hb_2 ?_
   refine Wp.skipN (by kernel_rfl) ?_
   refine seqQ_norm ?_
   refine sN ?_
   refine rg0 hc 2 [(4, I r_4_3)] [] ?_
   refine seqQ_norm ?_
   refine Wp.retN (by kernel_rfl) ?_
   obtain rfl := Option.some.inj h
   exact RetQ.ret (fl := [true]) (by kernel_rfl)
def laws_FnExactNormalForm (p : GTerm × Int) : Option (Bool) :=
 match p with
 | (aT0, aMost1) =>
  (laws_szTerm (aT0, 1048576)) >>= fun r_2_2 =>
  if (decide (r_2_2 < 0)) = true then
   some true
  else
   (laws_toTerm aT0) >>= fun r_5_1 =>
   (spec_NormalForm (r_5_1, aMost1)) >>= fun (r_5_3_0, r_5_3_1, r_5_3_2) =>
   (laws_toTerm aT0) >>= fun r_6_1 =>
   (impl_NormalForm (r_6_1, aMost1)) >>= fun (r_7_2_0, r_7_2_1, r_7_2_2) =>
   (
    (laws_eqTerm (r_7_2_0, r_5_3_0)) >>= fun r_8_2 =>
    if r_8_2 = true then
     if (r_7_2_1 != r_5_3_1) = true then
      some (true)
     else
      some ((!(r_7_2_2 == r_5_3_2)))
    else
     some (true)
   ) >>= fun v_2 =>
   if v_2 = true then
    some false
   else
    (laws_toTerm aT0) >>= fun r_10_2 =>
    (laws_eqTerm (r_6_1, r_10_2)) >>= fun r_10_3 =>
    if r_10_3 = true then
     (laws_markTerm (r_6_1, 1)) >>= fun (r_13_2, o_13_2_0) =>
     (
      if (decide (r_13_2 < 0)) = true then
       some (true)
      else
       (laws_eqTerm (r_7_2_0, r_5_3_0)) >>= fun r_14_5 =>
       if r_14_5 = true then
        if (r_7_2_1 != r_5_3_1) = true then
         some (true)
        else
         some ((!(r_7_2_2 == r_5_3_2)))
       else
        some (true)
     ) >>= fun v_6 =>
     if v_6 = true then
      some false
     else
      (laws_markTerm (r_7_2_0, 1)) >>= fun (r_17_2, o_17_2_0) =>
      (laws_heldTerm ((GTerm.mk r_7_2_0.fOp r_7_2_0.fN o_17_2_0.fType o_17_2_0.fKids), 1)) >>= fun r_19_2 =>
      if (decide (r_19_2 < 0)) = true then
       some false
      else
       if (r_19_2 != r_17_2) = true then
        some false
       else
        (laws_toTerm aT0) >>= fun r_24_1 =>
        (impl_NormalForm (r_24_1, aMost1)) >>= fun (r_24_3_0, r_24_3_1, r_24_3_2) =>
        (
         (laws_eqTerm (r_24_3_0, r_5_3_0)) >>= fun r_25_2 =>
         if r_25_2 = true then
          if (r_24_3_1 != r_5_3_1) = true then
           some (true)
          else
           some ((!(r_24_3_2 == r_5_3_2)))
         else
          some (true)
        ) >>= fun v_11 =>
        if v_11 = true then
         some false
        else
         (laws_heldTerm ((GTerm.mk r_7_2_0.fOp r_7_2_0.fN o_17_2_0.fType o_17_2_0.fKids), 1)) >>= fun r_28_2 =>
         if (decide (r_28_2 < 0)) = true then
          some false
         else
          if (r_28_2 != r_17_2) = true then
           some false
          else
           some true
    else
     some false
def M_laws_FnExactNormalForm (p : GTerm × Int) (r : Bool) : Prop :=
 match p with
 | (aT0, aMost1) => FnSound Try.prog 6 [aTerm aT0, I aMost1] (.bool r) []
theorem laws_FnExactNormalForm_s : ∀ p r, laws_FnExactNormalForm p = some r → M_laws_FnExactNormalForm p r := by
 rintro ⟨aT0, aMost1⟩ r h
 unfold laws_FnExactNormalForm at h
 show FnSound Try.prog 6 [aTerm aT0, I aMost1] (.bool r) []
 refine FnSound.body0 tiok (fn := Try.f6) (code := B6) (by kernel_rfl) (by kernel_rfl) (by kernel_rfl) (by kernel_rfl) (nt := 122) (by kernel_rfl) (by kernel_rfl) (T := [(0, aTerm aT0), (1, I aMost1)]) (O := []) (by kernel_rfl) (by kernel_rfl) (fun c hc => ?_)
 refine sN ?_
 refine rg hc none [some (.new 1), oN] [(1, I aMost1), (2, .ra 1 0)] [(1, bTerm aT0)] trivial ?_
 refine seqQ_norm ?_
 refine sN ?_
 refine rg0 hc 1 [(1, I aMost1), (2, .ra 1 0), (5, I 1048576)] [(1, bTerm aT0)] ?_
 refine seqQ_norm ?_
 refine sN ?_
 obtain ⟨r_2_2, hr_2_2, h⟩ := bsome h
 refine rg hc none [oN, oN, oc (I r_2_2), oN] [(1, I aMost1), (2, .ra 1 0), (5, I r_2_2)] [(1, bTerm aT0)] (ai (laws_szTerm_s _ _ hr_2_2) (ai bod_9 (ai (oi (I r_2_2)) trivial))) ?_
 refine seqQ_norm ?_
 refine sN ?_
 refine sN ?_
 refine rg0 hc 2 [(1, I aMost1), (2, .ra 1 0), (23, .bool (decide (r_2_2 < 0)))] [(1, bTerm aT0)] ?_
 refine seqQ_norm ?_
 rcases itesome h with ⟨hb_1, h⟩ | ⟨hb_1, h⟩
 ·refine cT ((decide (r_2_2 < 0))) hb_1 ?_
  refine sN ?_
  refine rg0 hc 1 [(4, .bool true)] [] ?_
  refine seqQ_norm ?_
  refine Wp.retN (by kernel_rfl) ?_
  refine seqQ_ret ?_
  obtain rfl := Option.some.inj h
  exact RetQ.ret (fl := [true]) (by kernel_rfl)
 ·refine cF ((decide (r_2_2 < 0))) hb_1 ?_
  refine Wp.skipN (by kernel_rfl) ?_
  refine seqQ_norm ?_
  refine sN ?_
  obtain ⟨r_5_1, hr_5_1, h⟩ := bsome h
  obtain ⟨⟨r_5_3_0, r_5_3_1, r_5_3_2⟩, hr_5_3, h⟩ := bsome h
  refine rg hc none [oN, some (.call (qTerm r_5_1) [] 2), oN, some (.call (.tup [qTerm r_5_3_0, I r_5_3_1, .bool r_5_3_2]) [] 4), oN, oN, oN, oN, some (.new 6), oN, oN, oN] [(1, I aMost1), (2, .ra 1 0), (6, .ra 6 0), (7, I r_5_3_1), (8, .bool r_5_3_2)] [(1, bTerm aT0), (4, .arr (List.map I r_5_3_0.fType)), (5, .arr (List.map GTerm_O r_5_3_0.fKids)), (6, .box [I r_5_3_0.fOp, I r_5_3_0.fN, .rs 4, .rs 5])] (ai (laws_toTerm_s _ _ hr_5_1) (ai bod_13 (ai (oi (qTerm r_5_1)) (ai (FnSound.args (A1 := [hTerm r_5_1, I aMost1]) (A2 := [aTerm r_5_1, I aMost1]) (by simp only [sI, sB, aTerm, hTerm, List.map_nil, sh_GTerm_O, sh_I]) (spec_NormalForm_s _ _ hr_5_3)) (ai bod_24 (ai (Or.inr (nsh_cons (nsh_cons rfl (nsh_cons rfl (nsh_cons (nsh_row nsh_I r_5_3_0.fType) (nsh_cons (nsh_row nsh_GTerm_O r_5_3_0.fKids) rfl)))) (nsh_cons rfl (nsh_cons rfl rfl))) : ([2, 3] : List Nat) = [] ∨ noSh (.tup [qTerm r_5_3_0, I r_5_3_1, .bool r_5_3_2]) = true) trivial)))))) ?_
  refine seqQ_norm ?_
  refine sN ?_
  obtain ⟨r_6_1, hr_6_1, h⟩ := bsome h
  refine rg hc none [oN, some (.call (qTerm r_6_1) [] 7), some (.new 9), oN] [(1, I aMost1), (2, .ra 1 0), (6, .ra 6 0), (7, I r_5_3_1), (8, .bool r_5_3_2), (9, .ra 9 0)] [(1, bTerm aT0), (4, .arr (List.map I r_5_3_0.fType)), (5, .arr (List.map GTerm_O r_5_3_0.fKids)), (6, .box [I r_5_3_0.fOp, I r_5_3_0.fN, .rs 4, .rs 5]), (7, .arr (List.map I r_6_1.fType)), (8, .arr (List.map GTerm_O r_6_1.fKids)), (9, .box [I r_6_1.fOp, I r_6_1.fN, .rs 7, .rs 8])] (ai (laws_toTerm_s _ _ hr_6_1) (ai bod_13 (ai (oi (qTerm r_6_1)) trivial))) ?_
  refine seqQ_norm ?_
  refine sN ?_
  obtain ⟨⟨r_7_2_0, r_7_2_1, r_7_2_2⟩, hr_7_2, h⟩ := bsome h
  refine rg hc none [oN, oN, some (.call (.tup [qTerm r_7_2_0, I r_7_2_1, .bool r_7_2_2]) [] 10), oN, oN, oN, oN, some (.new 12), oN, oN, oN] [(1, I aMost1), (2, .ra 1 0), (6, .ra 6 0), (7, I r_5_3_1), (8, .bool r_5_3_2), (9, .ra 9 0), (10, .ra 12 0), (11, I r_7_2_1), (12, .bool r_7_2_2)] [(1, bTerm aT0), (4, .arr (List.map I r_5_3_0.fType)), (5, .arr (List.map GTerm_O r_5_3_0.fKids)), (6, .box [I r_5_3_0.fOp, I r_5_3_0.fN, .rs 4, .rs 5]), (7, .arr (List.map I r_6_1.fType)), (8, .arr (List.map GTerm_O r_6_1.fKids)), (9, .box [I r_6_1.fOp, I r_6_1.fN, .rs 7, .rs 8]), (10, .arr (List.map I r_7_2_0.fType)), (11, .arr (List.map GTerm_O r_7_2_0.fKids)), (12, .box [I r_7_2_0.fOp, I r_7_2_0.fN, .rs 10, .rs 11])] (ai (FnSound.args (A1 := [hTerm r_6_1, I aMost1]) (A2 := [aTerm r_6_1, I aMost1]) (by simp only [sI, sB, aTerm, hTerm, List.map_nil, sh_GTerm_O, sh_I]) (impl_NormalForm_s _ _ hr_7_2)) (ai bod_25 (ai (Or.inr (nsh_cons (nsh_cons rfl (nsh_cons rfl (nsh_cons (nsh_row nsh_I r_7_2_0.fType) (nsh_cons (nsh_row nsh_GTerm_O r_7_2_0.fKids) rfl)))) (nsh_cons rfl (nsh_cons rfl rfl))) : ([7, 8] : List Nat) = [] ∨ noSh (.tup [qTerm r_7_2_0, I r_7_2_1, .bool r_7_2_2]) = true) trivial))) ?_
  refine seqQ_norm ?_
  refine sN ?_
  refine sN ?_
  obtain ⟨v_2, hj_3, h⟩ := bsome h
  refine Wp.into (x := .normal) (mkS [(1, I aMost1), (2, .ra 1 0), (6, .ra 6 0), (7, I r_5_3_1), (8, .bool r_5_3_2), (9, .ra 9 0), (10, .ra 12 0), (11, I r_7_2_1), (12, .bool r_7_2_2), (54, .bool v_2)] [(1, bTerm aT0), (4, .arr (List.map I r_5_3_0.fType)), (5, .arr (List.map GTerm_O r_5_3_0.fKids)), (6, .box [I r_5_3_0.fOp, I r_5_3_0.fN, .rs 4, .rs 5]), (7, .arr (List.map I r_6_1.fType)), (8, .arr (List.map GTerm_O r_6_1.fKids)), (9, .box [I r_6_1.fOp, I r_6_1.fN, .rs 7, .rs 8]), (10, .arr (List.map I r_7_2_0.fType)), (11, .arr (List.map GTerm_O r_7_2_0.fKids)), (12, .box [I r_7_2_0.fOp, I r_7_2_0.fN, .rs 10, .rs 11])]) ?_ ?_
  ·replace h := hj_3
   obtain ⟨r_8_2, hr_8_2, h⟩ := bsome h
   rcases itesome h with ⟨hb_8_0, h⟩ | ⟨hb_8_0, h⟩
   ·rcases itesome h with ⟨hb_8_1, h⟩ | ⟨hb_8_1, h⟩
    ·refine rg hc none [oN, oN, oc (.bool r_8_2), oN, oN, oN, oN, oN, oF, oN, o_, o_, o_, oT] [(1, I aMost1), (2, .ra 1 0), (6, .ra 6 0), (7, I r_5_3_1), (8, .bool r_5_3_2), (9, .ra 9 0), (10, .ra 12 0), (11, I r_7_2_1), (12, .bool r_7_2_2), (54, .bool true)] [(1, bTerm aT0), (4, .arr (List.map I r_5_3_0.fType)), (5, .arr (List.map GTerm_O r_5_3_0.fKids)), (6, .box [I r_5_3_0.fOp, I r_5_3_0.fN, .rs 4, .rs 5]), (7, .arr (List.map I r_6_1.fType)), (8, .arr (List.map GTerm_O r_6_1.fKids)), (9, .box [I r_6_1.fOp, I r_6_1.fN, .rs 7, .rs 8]), (10, .arr (List.map I r_7_2_0.fType)), (11, .arr (List.map GTerm_O r_7_2_0.fKids)), (12, .box [I r_7_2_0.fOp, I r_7_2_0.fN, .rs 10, .rs 11])] (ai (FnSound.args (A1 := [hTerm r_7_2_0, hTerm r_5_3_0]) (A2 := [aTerm r_7_2_0, aTerm r_5_3_0]) (by simp only [sI, sB, aTerm, hTerm, List.map_nil, sh_GTerm_O, sh_I]) (laws_eqTerm_s _ _ hr_8_2)) (ai bod_17 (ai (Or.inr rfl : ([10, 11, 4, 5] : List Nat) = [] ∨ noSh (.bool r_8_2) = true) (ar 4 (nF hb_8_0) (ar 3 (neF hb_8_1) (ai hb_8_1 trivial)))))) ?_
     obtain rfl := Option.some.inj h
     exact Into.mk
    ·refine rg hc none [oN, oN, oc (.bool r_8_2), oN, oN, oN, oN, oN, oF, oN, oN, oN, oN, oF] [(1, I aMost1), (2, .ra 1 0), (6, .ra 6 0), (7, I r_5_3_1), (8, .bool r_5_3_2), (9, .ra 9 0), (10, .ra 12 0), (11, I r_7_2_1), (12, .bool r_7_2_2), (54, .bool (!(r_7_2_2 == r_5_3_2)))] [(1, bTerm aT0), (4, .arr (List.map I r_5_3_0.fType)), (5, .arr (List.map GTerm_O r_5_3_0.fKids)), (6, .box [I r_5_3_0.fOp, I r_5_3_0.fN, .rs 4, .rs 5]), (7, .arr (List.map I r_6_1.fType)), (8, .arr (List.map GTerm_O r_6_1.fKids)), (9, .box [I r_6_1.fOp, I r_6_1.fN, .rs 7, .rs 8]), (10, .arr (List.map I r_7_2_0.fType)), (11, .arr (List.map GTerm_O r_7_2_0.fKids)), (12, .box [I r_7_2_0.fOp, I r_7_2_0.fN, .rs 10, .rs 11])] (ai (FnSound.args (A1 := [hTerm r_7_2_0, hTerm r_5_3_0]) (A2 := [aTerm r_7_2_0, aTerm r_5_3_0]) (by simp only [sI, sB, aTerm, hTerm, List.map_nil, sh_GTerm_O, sh_I]) (laws_eqTerm_s _ _ hr_8_2)) (ai bod_17 (ai (Or.inr rfl : ([10, 11, 4, 5] : List Nat) = [] ∨ noSh (.bool r_8_2) = true) (ar 4 (nF hb_8_0) (ar 4 hb_8_1 trivial))))) ?_
     obtain rfl := Option.some.inj h
     exact Into.mk
   ·refine rg hc none [oN, oN, oc (.bool r_8_2), oN, oN, o_, o_, o_, oT, oN, o_, o_, o_, oT] [(1, I aMost1), (2, .ra 1 0), (6, .ra 6 0), (7, I r_5_3_1), (8, .bool r_5_3_2), (9, .ra 9 0), (10, .ra 12 0), (11, I r_7_2_1), (12, .bool r_7_2_2), (54, .bool true)] [(1, bTerm aT0), (4, .arr (List.map I r_5_3_0.fType)), (5, .arr (List.map GTerm_O r_5_3_0.fKids)), (6, .box [I r_5_3_0.fOp, I r_5_3_0.fN, .rs 4, .rs 5]), (7, .arr (List.map I r_6_1.fType)), (8, .arr (List.map GTerm_O r_6_1.fKids)), (9, .box [I r_6_1.fOp, I r_6_1.fN, .rs 7, .rs 8]), (10, .arr (List.map I r_7_2_0.fType)), (11, .arr (List.map GTerm_O r_7_2_0.fKids)), (12, .box [I r_7_2_0.fOp, I r_7_2_0.fN, .rs 10, .rs 11])] (ai (FnSound.args (A1 := [hTerm r_7_2_0, hTerm r_5_3_0]) (A2 := [aTerm r_7_2_0, aTerm r_5_3_0]) (by simp only [sI, sB, aTerm, hTerm, List.map_nil, sh_GTerm_O, sh_I]) (laws_eqTerm_s _ _ hr_8_2)) (ai bod_17 (ai (Or.inr rfl : ([10, 11, 4, 5] : List Nat) = [] ∨ noSh (.bool r_8_2) = true) (ar 3 (neF (nT hb_8_0)) (ai (nT hb_8_0) (ar 3 nf (ai tt trivial))))))) ?_
    obtain rfl := Option.some.inj h
    exact Into.mk
  ·clear hj_3
   refine seqQ_norm ?_
   rcases itesome h with ⟨hb_4, h⟩ | ⟨hb_4, h⟩
   ·refine cT v_2 hb_4 ?_
    refine sN ?_
    refine rg0 hc 1 [(4, .bool false)] [] ?_
    refine seqQ_norm ?_
    refine Wp.retN (by kernel_rfl) ?_
    refine seqQ_ret ?_
    obtain rfl := Option.some.inj h
    exact RetQ.ret (fl := [true]) (by kernel_rfl)
   ·refine cF v_2 hb_4 ?_
    refine Wp.skipN (by kernel_rfl) ?_
    refine seqQ_norm ?_
    refine sN ?_
    refine sN ?_
    obtain ⟨r_10_2, hr_10_2, h⟩ := bsome h
    obtain ⟨r_10_3, hr_10_3, h⟩ := bsome h
    refine rg hc (rx [[0], [0], [0, 1], [3], [4]]) [oN, oN, some (.call (qTerm r_10_2) [] 13), oc (.bool r_10_3), oN] [(1, I aMost1), (2, .ra 1 0), (6, .ra 6 0), (7, I r_5_3_1), (8, .bool r_5_3_2), (9, .ra 9 0), (10, .ra 12 0), (11, I r_7_2_1), (12, .bool r_7_2_2), (59, .bool (!r_10_3))] [(1, bTerm aT0), (4, .arr (List.map I r_5_3_0.fType)), (5, .arr (List.map GTerm_O r_5_3_0.fKids)), (6, .box [I r_5_3_0.fOp, I r_5_3_0.fN, .rs 4, .rs 5]), (7, .arr (List.map I r_6_1.fType)), (8, .arr (List.map GTerm_O r_6_1.fKids)), (9, .box [I r_6_1.fOp, I r_6_1.fN, .rs 7, .rs 8]), (10, .arr (List.map I r_7_2_0.fType)), (11, .arr (List.map GTerm_O r_7_2_0.fKids)), (12, .box [I r_7_2_0.fOp, I r_7_2_0.fN, .rs 10, .rs 11])] (ai (laws_toTerm_s _ _ hr_10_2) (ai bod_13 (ai (oi (qTerm r_10_2)) (ai (FnSound.args (A1 := [hTerm r_6_1, hTerm r_10_2]) (A2 := [aTerm r_6_1, aTerm r_10_2]) (by simp only [sI, sB, aTerm, hTerm, List.map_nil, sh_GTerm_O, sh_I]) (laws_eqTerm_s _ _ hr_10_3)) (ai bod_17 (ai (Or.inr rfl : ([7, 8, 13, 14] : List Nat) = [] ∨ noSh (.bool r_10_3) = true) trivial)))))) ?_
    refine seqQ_norm ?_
    rcases itesome h with ⟨hb_5, h⟩ | ⟨hb_5, h⟩
    ·refine cF (!r_10_3) (nF hb_5) ?_
     refine Wp.skipN (by kernel_rfl) ?_
     refine seqQ_norm ?_
     refine sN ?_
     refine rg0 hc 1 [(1, I aMost1), (2, .ra 1 0), (6, .ra 6 0), (7, I r_5_3_1), (8, .bool r_5_3_2), (9, .ra 9 0), (10, .ra 12 0), (11, I r_7_2_1), (12, .bool r_7_2_2), (13, I 1)] [(1, bTerm aT0), (4, .arr (List.map I r_5_3_0.fType)), (5, .arr (List.map GTerm_O r_5_3_0.fKids)), (6, .box [I r_5_3_0.fOp, I r_5_3_0.fN, .rs 4, .rs 5]), (7, .arr (List.map I r_6_1.fType)), (8, .arr (List.map GTerm_O r_6_1.fKids)), (9, .box [I r_6_1.fOp, I r_6_1.fN, .rs 7, .rs 8]), (10, .arr (List.map I r_7_2_0.fType)), (11, .arr (List.map GTerm_O r_7_2_0.fKids)), (12, .box [I r_7_2_0.fOp, I r_7_2_0.fN, .rs 10, .rs 11])] ?_
     refine seqQ_norm ?_
     refine sN ?_
     obtain ⟨⟨r_13_2, o_13_2_0⟩, hr_13_2, h⟩ := bsome h
     refine rg hc none [oN, oN, some (.call (I r_13_2) [.agg [.undef, .undef, .osl (List.map I o_13_2_0.fType), .osl (List.map GTerm_O o_13_2_0.fKids)], .undef] 1), oN] [(1, I aMost1), (2, .ra 1 0), (6, .ra 6 0), (7, I r_5_3_1), (8, .bool r_5_3_2), (10, .ra 12 0), (11, I r_7_2_1), (12, .bool r_7_2_2), (13, I r_13_2)] [(1, bTerm aT0), (4, .arr (List.map I r_5_3_0.fType)), (5, .arr (List.map GTerm_O r_5_3_0.fKids)), (6, .box [I r_5_3_0.fOp, I r_5_3_0.fN, .rs 4, .rs 5]), (10, .arr (List.map I r_7_2_0.fType)), (11, .arr (List.map GTerm_O r_7_2_0.fKids)), (12, .box [I r_7_2_0.fOp, I r_7_2_0.fN, .rs 10, .rs 11])] (ai (laws_markTerm_s _ _ hr_13_2) (ai bod_22 trivial)) ?_
     refine seqQ_norm ?_
     refine sN ?_
     refine sN ?_
     obtain ⟨v_6, hj_7, h⟩ := bsome h
     refine Wp.into (x := .normal) (mkS [(1, I aMost1), (2, .ra 1 0), (6, .ra 6 0), (7, I r_5_3_1), (8, .bool r_5_3_2), (10, .ra 12 0), (80, .bool v_6)] [(1, bTerm aT0), (4, .arr (List.map I r_5_3_0.fType)), (5, .arr (List.map GTerm_O r_5_3_0.fKids)), (6, .box [I r_5_3_0.fOp, I r_5_3_0.fN, .rs 4, .rs 5]), (10, .arr (List.map I r_7_2_0.fType)), (11, .arr (List.map GTerm_O r_7_2_0.fKids)), (12, .box [I r_7_2_0.fOp, I r_7_2_0.fN, .rs 10, .rs 11])]) ?_ ?_
     ·replace h := hj_7
      rcases itesome h with ⟨hb_14_0, h⟩ | ⟨hb_14_0, h⟩
      ·refine rg hc none [oN, oN, oN, o_, o_, o_, o_, oT, oN, o_, o_, o_, oT, oN, o_, o_, o_, oT] [(1, I aMost1), (2, .ra 1 0), (6, .ra 6 0), (7, I r_5_3_1), (8, .bool r_5_3_2), (10, .ra 12 0), (80, .bool true)] [(1, bTerm aT0), (4, .arr (List.map I r_5_3_0.fType)), (5, .arr (List.map GTerm_O r_5_3_0.fKids)), (6, .box [I r_5_3_0.fOp, I r_5_3_0.fN, .rs 4, .rs 5]), (10, .arr (List.map I r_7_2_0.fType)), (11, .arr (List.map GTerm_O r_7_2_0.fKids)), (12, .box [I r_7_2_0.fOp, I r_7_2_0.fN, .rs 10, .rs 11])] (ar 4 (neF hb_14_0) (ai hb_14_0 (ar 3 nf (ai tt (ar 3 nf (ai tt trivial)))))) ?_
       obtain rfl := Option.some.inj h
       exact Into.mk
      ·obtain ⟨r_14_5, hr_14_5, h⟩ := bsome h
       rcases itesome h with ⟨hb_14_1, h⟩ | ⟨hb_14_1, h⟩
       ·rcases itesome h with ⟨hb_14_2, h⟩ | ⟨hb_14_2, h⟩
        ·refine rg hc none [oN, oN, oN, oN, oN, oc (.bool r_14_5), oN, oF, oN, oN, oN, oN, oF, oN, o_, o_, o_, oT] [(1, I aMost1), (2, .ra 1 0), (6, .ra 6 0), (7, I r_5_3_1), (8, .bool r_5_3_2), (10, .ra 12 0), (80, .bool true)] [(1, bTerm aT0), (4, .arr (List.map I r_5_3_0.fType)), (5, .arr (List.map GTerm_O r_5_3_0.fKids)), (6, .box [I r_5_3_0.fOp, I r_5_3_0.fN, .rs 4, .rs 5]), (10, .arr (List.map I r_7_2_0.fType)), (11, .arr (List.map GTerm_O r_7_2_0.fKids)), (12, .box [I r_7_2_0.fOp, I r_7_2_0.fN, .rs 10, .rs 11])] (ar 3 hb_14_0 (ai (FnSound.args (A1 := [hTerm r_7_2_0, hTerm r_5_3_0]) (A2 := [aTerm r_7_2_0, aTerm r_5_3_0]) (by simp only [sI, sB, aTerm, hTerm, List.map_nil, sh_GTerm_O, sh_I]) (laws_eqTerm_s _ _ hr_14_5)) (ai bod_17 (ai (Or.inr rfl : ([10, 11, 4, 5] : List Nat) = [] ∨ noSh (.bool r_14_5) = true) (ar 2 hb_14_0 (ar 4 (nF hb_14_1) (ar 3 (neF hb_14_2) (ai hb_14_2 trivial)))))))) ?_
         obtain rfl := Option.some.inj h
         exact Into.mk
        ·refine rg hc none [oN, oN, oN, oN, oN, oc (.bool r_14_5), oN, oF, oN, oN, oN, oN, oF, oN, oN, oN, oN, oF] [(1, I aMost1), (2, .ra 1 0), (6, .ra 6 0), (7, I r_5_3_1), (8, .bool r_5_3_2), (10, .ra 12 0), (80, .bool (!(r_7_2_2 == r_5_3_2)))] [(1, bTerm aT0), (4, .arr (List.map I r_5_3_0.fType)), (5, .arr (List.map GTerm_O r_5_3_0.fKids)), (6, .box [I r_5_3_0.fOp, I r_5_3_0.fN, .rs 4, .rs 5]), (10, .arr (List.map I r_7_2_0.fType)), (11, .arr (List.map GTerm_O r_7_2_0.fKids)), (12, .box [I r_7_2_0.fOp, I r_7_2_0.fN, .rs 10, .rs 11])] (ar 3 hb_14_0 (ai (FnSound.args (A1 := [hTerm r_7_2_0, hTerm r_5_3_0]) (A2 := [aTerm r_7_2_0, aTerm r_5_3_0]) (by simp only [sI, sB, aTerm, hTerm, List.map_nil, sh_GTerm_O, sh_I]) (laws_eqTerm_s _ _ hr_14_5)) (ai bod_17 (ai (Or.inr rfl : ([10, 11, 4, 5] : List Nat) = [] ∨ noSh (.bool r_14_5) = true) (ar 2 hb_14_0 (ar 4 (nF hb_14_1) (ar 4 hb_14_2 trivial))))))) ?_
         obtain rfl := Option.some.inj h
         exact Into.mk
       ·refine rg hc none [oN, oN, oN, oN, oN, oc (.bool r_14_5), oN, oF, oN, o_, o_, o_, oT, oN, o_, o_, o_, oT] [(1, I aMost1), (2, .ra 1 0), (6, .ra 6 0), (7, I r_5_3_1), (8, .bool r_5_3_2), (10, .ra 12 0), (80, .bool true)] [(1, bTerm aT0), (4, .arr (List.map I r_5_3_0.fType)), (5, .arr (List.map GTerm_O r_5_3_0.fKids)), (6, .box [I r_5_3_0.fOp, I r_5_3_0.fN, .rs 4, .rs 5]), (10, .arr (List.map I r_7_2_0.fType)), (11, .arr (List.map GTerm_O r_7_2_0.fKids)), (12, .box [I r_7_2_0.fOp, I r_7_2_0.fN, .rs 10, .rs 11])] (ar 3 hb_14_0 (ai (FnSound.args (A1 := [hTerm r_7_2_0, hTerm r_5_3_0]) (A2 := [aTerm r_7_2_0, aTerm r_5_3_0]) (by simp only [sI, sB, aTerm, hTerm, List.map_nil, sh_GTerm_O, sh_I]) (laws_eqTerm_s _ _ hr_14_5)) (ai bod_17 (ai (Or.inr rfl : ([10, 11, 4, 5] : List Nat) = [] ∨ noSh (.bool r_14_5) = true) (ar 2 hb_14_0 (ar 3 (neF (nT hb_14_1)) (ai (nT hb_14_1) (ar 3 nf (ai tt trivial))))))))) ?_
        obtain rfl := Option.some.inj h
        exact Into.mk
     ·clear hj_7
      refine seqQ_norm ?_
      rcases itesome h with ⟨hb_8, h⟩ | ⟨hb_8, h⟩
      ·refine cT v_6 hb_8 ?_
       refine sN ?_
       refine rg0 hc 1 [(4, .bool false)] [] ?_
       refine seqQ_norm ?_
       refine Wp.retN (by kernel_rfl) ?_
       refine seqQ_ret ?_
       obtain rfl := Option.some.inj h
       exact RetQ.ret (fl := [true]) (by kernel_rfl)
      ·refine cF v_6 hb_8 ?_
       refine Wp.skipN (by kernel_rfl) ?_
       refine seqQ_norm ?_
       refine sN ?_
       refine rg0 hc 1 [(1, I aMost1), (2, .ra 1 0), (6, .ra 6 0), (7, I r_5_3_1), (8, .bool r_5_3_2), (10, .ra 12 0), (14, I 1)] [(1, bTerm aT0), (4, .arr (List.map I r_5_3_0.fType)), (5, .arr (List.map GTerm_O r_5_3_0.fKids)), (6, .box [I r_5_3_0.fOp, I r_5_3_0.fN, .rs 4, .rs 5]), (10, .arr (List.map I r_7_2_0.fType)), (11, .arr (List.map GTerm_O r_7_2_0.fKids)), (12, .box [I r_7_2_0.fOp, I r_7_2_0.fN, .rs 10, .rs 11])] ?_
       refine seqQ_norm ?_
       refine sN ?_
       obtain ⟨⟨r_17_2, o_17_2_0⟩, hr_17_2, h⟩ := bsome h
       refine rg hc none [oN, oN, some (.call (I r_17_2) [.agg [.undef, .undef, .osl (List.map I o_17_2_0.fType), .osl (List.map GTerm_O o_17_2_0.fKids)], .undef] 1), oN] [(1, I aMost1), (2, .ra 1 0), (6, .ra 6 0), (7, I r_5_3_1), (8, .bool r_5_3_2), (10, .ra 12 0), (14, I r_17_2)] [(1, bTerm aT0), (4, .arr (List.map I r_5_3_0.fType)), (5, .arr (List.map GTerm_O r_5_3_0.fKids)), (6, .box [I r_5_3_0.fOp, I r_5_3_0.fN, .rs 4, .rs 5]), (10, .arr (List.map I o_17_2_0.fType)), (11, .arr (List.map GTerm_O o_17_2_0.fKids)), (12, .box [I r_7_2_0.fOp, I r_7_2_0.fN, .rs 10, .rs 11])] (ai (laws_markTerm_s _ _ hr_17_2) (ai bod_22 trivial)) ?_
       refine seqQ_norm ?_
       refine sN ?_
       refine rg0 hc 1 [(1, I aMost1), (2, .ra 1 0), (6, .ra 6 0), (7, I r_5_3_1), (8, .bool r_5_3_2), (10, .ra 12 0), (14, I r_17_2), (15, I 1)] [(1, bTerm aT0), (4, .arr (List.map I r_5_3_0.fType)), (5, .arr (List.map GTerm_O r_5_3_0.fKids)), (6, .box [I r_5_3_0.fOp, I r_5_3_0.fN, .rs 4, .rs 5]), (10, .arr (List.map I o_17_2_0.fType)), (11, .arr (List.map GTerm_O o_17_2_0.fKids)), (12, .box [I r_7_2_0.fOp, I r_7_2_0.fN, .rs 10, .rs 11])] ?_
       refine seqQ_norm ?_
       refine sN ?_
       obtain ⟨r_19_2, hr_19_2, h⟩ := bsome h
       refine rg hc none [oN, oN, oc (I r_19_2), oN] [(1, I aMost1), (2, .ra 1 0), (6, .ra 6 0), (7, I r_5_3_1), (8, .bool r_5_3_2), (10, .ra 12 0), (14, I r_17_2), (15, I r_19_2)] [(1, bTerm aT0), (4, .arr (List.map I r_5_3_0.fType)), (5, .arr (List.map GTerm_O r_5_3_0.fKids)), (6, .box [I r_5_3_0.fOp, I r_5_3_0.fN, .rs 4, .rs 5]), (10, .arr (List.map I o_17_2_0.fType)), (11, .arr (List.map GTerm_O o_17_2_0.fKids)), (12, .box [I r_7_2_0.fOp, I r_7_2_0.fN, .rs 10, .rs 11])] (ai (FnSound.args (A1 := [.agg [I r_7_2_0.fOp, I r_7_2_0.fN, .sl (shares (List.map I o_17_2_0.fType)), .sl (shares (List.map GTerm_O o_17_2_0.fKids))], I 1]) (A2 := [.agg [I r_7_2_0.fOp, I r_7_2_0.fN, sI o_17_2_0.fType, .sl (List.map GTerm_S o_17_2_0.fKids)], I 1]) (by simp only [sI, sB, aTerm, hTerm, List.map_nil, sh_GTerm_O, sh_I]) (laws_heldTerm_s _ _ hr_19_2)) (ai bod_23 (ai (Or.inr rfl : ([10, 11] : List Nat) = [] ∨ noSh (I r_19_2) = true) trivial))) ?_
       refine seqQ_norm ?_
       refine sN ?_
       refine sN ?_
       refine rg0 hc 2 [(1, I aMost1), (2, .ra 1 0), (6, .ra 6 0), (7, I r_5_3_1), (8, .bool r_5_3_2), (10, .ra 12 0), (14, I r_17_2), (15, I r_19_2), (88, .bool (decide (r_19_2 < 0)))] [(1, bTerm aT0), (4, .arr (List.map I r_5_3_0.fType)), (5, .arr (List.map GTerm_O r_5_3_0.fKids)), (6, .box [I r_5_3_0.fOp, I r_5_3_0.fN, .rs 4, .rs 5]), (10, .arr (List.map I o_17_2_0.fType)), (11, .arr (List.map GTerm_O o_17_2_0.fKids)), (12, .box [I r_7_2_0.fOp, I r_7_2_0.fN, .rs 10, .rs 11])] ?_
       refine seqQ_norm ?_
       rcases itesome h with ⟨hb_9, h⟩ | ⟨hb_9, h⟩
       ·refine cT ((decide (r_19_2 < 0))) hb_9 ?_
        refine sN ?_
        refine rg0 hc 1 [(4, .bool false)] [] ?_
        refine seqQ_norm ?_
        refine Wp.retN (by kernel_rfl) ?_
        refine seqQ_ret ?_
        obtain rfl := Option.some.inj h
        exact RetQ.ret (fl := [true]) (by kernel_rfl)
       ·refine cF ((decide (r_19_2 < 0))) hb_9 ?_
        refine Wp.skipN (by kernel_rfl) ?_
        refine seqQ_norm ?_
        refine sN ?_
        refine sN ?_
        refine rg0 hc 3 [(1, I aMost1), (2, .ra 1 0), (6, .ra 6 0), (7, I r_5_3_1), (8, .bool r_5_3_2), (10, .ra 12 0), (14, I r_17_2), (91, .bool (r_19_2 != r_17_2))] [(1, bTerm aT0), (4, .arr (List.map I r_5_3_0.fType)), (5, .arr (List.map GTerm_O r_5_3_0.fKids)), (6, .box [I r_5_3_0.fOp, I r_5_3_0.fN, .rs 4, .rs 5]), (10, .arr (List.map I o_17_2_0.fType)), (11, .arr (List.map GTerm_O o_17_2_0.fKids)), (12, .box [I r_7_2_0.fOp, I r_7_2_0.fN, .rs 10, .rs 11])] ?_
        refine seqQ_norm ?_
        rcases itesome h with ⟨hb_10, h⟩ | ⟨hb_10, h⟩
        ·refine cT ((r_19_2 != r_17_2)) hb_10 ?_
         refine sN ?_
         refine rg0 hc 1 [(4, .bool false)] [] ?_
         refine seqQ_norm ?_
         refine Wp.retN (by kernel_rfl) ?_
         refine seqQ_ret ?_
         obtain rfl := Option.some.inj h
         exact RetQ.ret (fl := [true]) (by kernel_rfl)
        ·refine cF ((r_19_2 != r_17_2)) hb_10 ?_
         refine Wp.skipN (by kernel_rfl) ?_
         refine seqQ_norm ?_
         refine sN ?_
         obtain ⟨r_24_1, hr_24_1, h⟩ := bsome h
         obtain ⟨⟨r_24_3_0, r_24_3_1, r_24_3_2⟩, hr_24_3, h⟩ := bsome h
         refine rg hc none [oN, some (.call (qTerm r_24_1) [] 15), oN, some (.call (.tup [qTerm r_24_3_0, I r_24_3_1, .bool r_24_3_2]) [] 17), oN, oN, oN, oN, some (.new 19), oN, oN, oN] [(6, .ra 6 0), (7, I r_5_3_1), (8, .bool r_5_3_2), (10, .ra 12 0), (14, I r_17_2), (16, .ra 19 0), (17, I r_24_3_1), (18, .bool r_24_3_2)] [(4, .arr (List.map I r_5_3_0.fType)), (5, .arr (List.map GTerm_O r_5_3_0.fKids)), (6, .box [I r_5_3_0.fOp, I r_5_3_0.fN, .rs 4, .rs 5]), (10, .arr (List.map I o_17_2_0.fType)), (11, .arr (List.map GTerm_O o_17_2_0.fKids)), (12, .box [I r_7_2_0.fOp, I r_7_2_0.fN, .rs 10, .rs 11]), (17, .arr (List.map I r_24_3_0.fType)), (18, .arr (List.map GTerm_O r_24_3_0.fKids)), (19, .box [I r_24_3_0.fOp, I r_24_3_0.fN, .rs 17, .rs 18])] (ai (laws_toTerm_s _ _ hr_24_1) (ai bod_13 (ai (oi (qTerm r_24_1)) (ai (FnSound.args (A1 := [hTerm r_24_1, I aMost1]) (A2 := [aTerm r_24_1, I aMost1]) (by simp only [sI, sB, aTerm, hTerm, List.map_nil, sh_GTerm_O, sh_I]) (impl_NormalForm_s _ _ hr_24_3)) (ai bod_25 (ai (Or.inr (nsh_cons (nsh_cons rfl (nsh_cons rfl (nsh_cons (nsh_row nsh_I r_24_3_0.fType) (nsh_cons (nsh_row nsh_GTerm_O r_24_3_0.fKids) rfl)))) (nsh_cons rfl (nsh_cons rfl rfl))) : ([15, 16] : List Nat) = [] ∨ noSh (.tup [qTerm r_24_3_0, I r_24_3_1, .bool r_24_3_2]) = true) trivial)))))) ?_
         refine seqQ_norm ?_
         refine sN ?_
         refine sN ?_
         obtain ⟨v_11, hj_12, h⟩ := bsome h
         refine Wp.into (x := .normal) (mkS [(10, .ra 12 0), (14, I r_17_2), (113, .bool v_11)] [(10, .arr (List.map I o_17_2_0.fType)), (11, .arr (List.map GTerm_O o_17_2_0.fKids)), (12, .box [I r_7_2_0.fOp, I r_7_2_0.fN, .rs 10, .rs 11])]) ?_ ?_
         ·replace h := hj_12
          obtain ⟨r_25_2, hr_25_2, h⟩ := bsome h
          rcases itesome h with ⟨hb_25_0, h⟩ | ⟨hb_25_0, h⟩
          ·rcases itesome h with ⟨hb_25_1, h⟩ | ⟨hb_25_1, h⟩
           ·refine rg hc none [oN, oN, oc (.bool r_25_2), oN, oN, oN, oN, oN, oF, oN, o_, o_, o_, oT] [(10, .ra 12 0), (14, I r_17_2), (113, .bool true)] [(10, .arr (List.map I o_17_2_0.fType)), (11, .arr (List.map GTerm_O o_17_2_0.fKids)), (12, .box [I r_7_2_0.fOp, I r_7_2_0.fN, .rs 10, .rs 11])] (ai (FnSound.args (A1 := [hTerm r_24_3_0, hTerm r_5_3_0]) (A2 := [aTerm r_24_3_0, aTerm r_5_3_0]) (by simp only [sI, sB, aTerm, hTerm, List.map_nil, sh_GTerm_O, sh_I]) (laws_eqTerm_s _ _ hr_25_2)) (ai bod_17 (ai (Or.inr rfl : ([17, 18, 4, 5] : List Nat) = [] ∨ noSh (.bool r_25_2) = true) (ar 4 (nF hb_25_0) (ar 3 (neF hb_25_1) (ai hb_25_1 trivial)))))) ?_
            obtain rfl := Option.some.inj h
            exact Into.mk
           ·refine rg hc none [oN, oN, oc (.bool r_25_2), oN, oN, oN, oN, oN, oF, oN, oN, oN, oN, oF] [(10, .ra 12 0), (14, I r_17_2), (113, .bool (!(r_24_3_2 == r_5_3_2)))] [(10, .arr (List.map I o_17_2_0.fType)), (11, .arr (List.map GTerm_O o_17_2_0.fKids)), (12, .box [I r_7_2_0.fOp, I r_7_2_0.fN, .rs 10, .rs 11])] (ai (FnSound.args (A1 := [hTerm r_24_3_0, hTerm r_5_3_0]) (A2 := [aTerm r_24_3_0, aTerm r_5_3_0]) (by simp only [sI, sB, aTerm, hTerm, List.map_nil, sh_GTerm_O, sh_I]) (laws_eqTerm_s _ _ hr_25_2)) (ai bod_17 (ai (Or.inr rfl : ([17, 18, 4, 5] : List Nat) = [] ∨ noSh (.bool r_25_2) = true) (ar 4 (nF hb_25_0) (ar 4 hb_25_1 trivial))))) ?_
            obtain rfl := Option.some.inj h
            exact Into.mk
          ·refine rg hc none [oN, oN, oc (.bool r_25_2), oN, oN, o_, o_, o_, oT, oN, o_, o_, o_, oT] [(10, .ra 12 0), (14, I r_17_2), (113, .bool true)] [(10, .arr (List.map I o_17_2_0.fType)), (11, .arr (List.map GTerm_O o_17_2_0.fKids)), (12, .box [I r_7_2_0.fOp, I r_7_2_0.fN, .rs 10, .rs 11])] (ai (FnSound.args (A1 := [hTerm r_24_3_0, hTerm r_5_3_0]) (A2 := [aTerm r_24_3_0, aTerm r_5_3_0]) (by simp only [sI, sB, aTerm, hTerm, List.map_nil, sh_GTerm_O, sh_I]) (laws_eqTerm_s _ _ hr_25_2)) (ai bod_17 (ai (Or.inr rfl : ([17, 18, 4, 5] : List Nat) = [] ∨ noSh (.bool r_25_2) = true) (ar 3 (neF (nT hb_25_0)) (ai (nT hb_25_0) (ar 3 nf (ai tt trivial))))))) ?_
           obtain rfl := Option.some.inj h
           exact Into.mk
         ·clear hj_12
          refine seqQ_norm ?_
          rcases itesome h with ⟨hb_13, h⟩ | ⟨hb_13, h⟩
          ·refine cT v_11 hb_13 ?_
           refine sN ?_
           refine rg0 hc 1 [(4, .bool false)] [] ?_
           refine seqQ_norm ?_
           refine Wp.retN (by kernel_rfl) ?_
           refine seqQ_ret ?_
           obtain rfl := Option.some.inj h
           exact RetQ.ret (fl := [true]) (by kernel_rfl)
          ·refine cF v_11 hb_13 ?_
           refine Wp.skipN (by kernel_rfl) ?_
           refine seqQ_norm ?_
           refine sN ?_
           refine rg0 hc 1 [(10, .ra 12 0), (14, I r_17_2), (15, I 1)] [(10, .arr (List.map I o_17_2_0.fType)), (11, .arr (List.map GTerm_O o_17_2_0.fKids)), (12, .box [I r_7_2_0.fOp, I r_7_2_0.fN, .rs 10, .rs 11])] ?_
           refine seqQ_norm ?_
           refine sN ?_
           obtain ⟨r_28_2, hr_28_2, h⟩ := bsome h
           refine rg hc none [oN, oN, oc (I r_28_2), oN] [(14, I r_17_2), (15, I r_28_2)] [] (ai (FnSound.args (A1 := [.agg [I r_7_2_0.fOp, I r_7_2_0.fN, .sl (shares (List.map I o_17_2_0.fType)), .sl (shares (List.map GTerm_O o_17_2_0.fKids))], I 1]) (A2 := [.agg [I r_7_2_0.fOp, I r_7_2_0.fN, sI o_17_2_0.fType, .sl (List.map GTerm_S o_17_2_0.fKids)], I 1]) (by simp only [sI, sB, aTerm, hTerm, List.map_nil, sh_GTerm_O, sh_I]) (laws_heldTerm_s _ _ hr_28_2)) (ai bod_23 (ai (Or.inr rfl : ([10, 11] : List Nat) = [] ∨ noSh (I r_28_2) = true) trivial))) ?_
           refine seqQ_norm ?_
           refine sN ?_
           refine sN ?_
           refine rg0 hc 2 [(14, I r_17_2), (15, I r_28_2), (118, .bool (decide (r_28_2 < 0)))] [] ?_
           refine seqQ_norm ?_
           rcases itesome h with ⟨hb_14, h⟩ | ⟨hb_14, h⟩
           ·refine cT ((decide (r_28_2 < 0))) hb_14 ?_
            refine sN ?_
            refine rg0 hc 1 [(4, .bool false)] [] ?_
            refine seqQ_norm ?_
            refine Wp.retN (by kernel_rfl) ?_
            refine seqQ_ret ?_
            obtain rfl := Option.some.inj h
            exact RetQ.ret (fl := [true]) (by kernel_rfl)
           ·refine cF ((decide (r_28_2 < 0))) hb_14 ?_
            refine Wp.skipN (by kernel_rfl) ?_
            refine seqQ_norm ?_
            refine sN ?_
            refine sN ?_
            refine rg0 hc 3 [(121, .bool (r_28_2 != r_17_2))] [] ?_
            refine seqQ_norm ?_
            rcases itesome h with ⟨hb_15, h⟩ | ⟨hb_15, h⟩
            ·refine cT ((r_28_2 != r_17_2)) hb_15 ?_
             refine sN ?_
             refine rg0 hc 1 [(4, .bool false)] [] ?_
             refine seqQ_norm ?_
             refine Wp.retN (by kernel_rfl) ?_
             refine seqQ_ret ?_
             obtain rfl := Option.some.inj h
             exact RetQ.ret (fl := [true]) (by kernel_rfl)
            ·refine cF ((r_28_2 != r_17_2)) hb_15 ?_
             refine Wp.skipN (by kernel_rfl) ?_
             refine seqQ_norm ?_
             refine sN ?_
             refine rg0 hc 1 [(4, .bool true)] [] ?_
             refine seqQ_norm ?_
             refine Wp.retN (by kernel_rfl) ?_
             obtain rfl := Option.some.inj h
             exact RetQ.ret (fl := [true]) (by kernel_rfl)
    ·refine cT (!r_10_3) (nT hb_5) ?_
     refine sN ?_
     refine rg0 hc 1 [(4, .bool false)] [] ?_
     refine seqQ_norm ?_
     refine Wp.retN (by kernel_rfl) ?_
     refine seqQ_ret ?_
     obtain rfl := Option.some.inj h
     exact RetQ.ret (fl := [true]) (by kernel_rfl)
end Go.Am
