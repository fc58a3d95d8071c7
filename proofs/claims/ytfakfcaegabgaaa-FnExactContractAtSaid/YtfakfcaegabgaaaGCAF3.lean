/- Functions of the program as pure functions, and that it computes them. Printed by a program of mine (gen.py). -/
import Derived.Test.YtfakfcaegabgaaaGCAF2
set_option linter.unusedVariables false
set_option linter.unusedSimpArgs false
set_option maxRecDepth 100000
namespace Go.Am
open Go Go.Proofs
def impl_formOf (op0 : Int) : Option (GForm × Bool) :=
  (impl_within (op0, 0, 12)) >>= fun r_1_1 =>
  if r_1_1 = true then
   (idx [(GForm.mk (ByteArray.mk #[120]) 0 false false), (GForm.mk ByteArray.empty 0 false false), (GForm.mk (ByteArray.mk #[97, 100, 100]) 2 false false), (GForm.mk (ByteArray.mk #[105, 102]) 3 false false), (GForm.mk (ByteArray.mk #[112, 97, 105, 114]) 2 false false), (GForm.mk (ByteArray.mk #[115, 112, 108, 105, 116]) 2 true false), (GForm.mk (ByteArray.mk #[108, 101, 102, 116]) 1 false true), (GForm.mk (ByteArray.mk #[114, 105, 103, 104, 116]) 1 false true), (GForm.mk (ByteArray.mk #[99, 97, 115, 101]) 3 true false), (GForm.mk (ByteArray.mk #[102, 117, 110]) 1 true true), (GForm.mk (ByteArray.mk #[97, 112, 112]) 2 false false), (GForm.mk (ByteArray.mk #[98, 111, 120]) 1 true false), (GForm.mk (ByteArray.mk #[111, 112, 101, 110]) 2 true false)] op0) >>= fun e_3_15 =>
   some (e_3_15, true)
  else
   some ((GForm.mk ByteArray.empty 0 false false), false)
def M_impl_formOf (op0 : Int) (r : GForm × Bool) : Prop :=
 FnSound Try.prog 111 [I op0] (.tup [.agg [.str r.1.fword, I r.1.fkids, .bool r.1.fgrade, .bool r.1.ftyped], .bool r.2]) []
theorem impl_formOf_s : ∀ p r, impl_formOf p = some r → M_impl_formOf p r := by
 rintro op0 r h
 unfold impl_formOf at h
 show FnSound Try.prog 111 [I op0] (.tup [.agg [.str r.1.fword, I r.1.fkids, .bool r.1.fgrade, .bool r.1.ftyped], .bool r.2]) []
 refine FnSound.body0 tiok (fn := Try.f111) (code := B111) (by kernel_rfl) (by kernel_rfl) (by kernel_rfl) (by kernel_rfl) (nt := 25) (by kernel_rfl) (by kernel_rfl) (T := [(0, I op0)]) (O := []) (by kernel_rfl) (by kernel_rfl) (fun c hc => ?_)
 refine sN ?_
 refine rg hc none [some (.new 1), oN] [(0, I op0), (2, .ra 1 0)] [(1, .box [.str ByteArray.empty, I 0, .bool false, .bool false])] trivial ?_
 refine seqQ_norm ?_
 refine sN ?_
 refine sN ?_
 obtain ⟨r_1_1, hr_1_1, h⟩ := bsome h
 refine rg hc none [oN, oc (.bool r_1_1), oN] [(0, I op0), (2, .ra 1 0), (6, .bool (!r_1_1))] [(1, .box [.str ByteArray.empty, I 0, .bool false, .bool false])] (ai (impl_within_s _ _ hr_1_1) (ai bod_64 (ai (oi (.bool r_1_1)) trivial))) ?_
 refine seqQ_norm ?_
 rcases itesome h with ⟨hb_1, h⟩ | ⟨hb_1, h⟩
 ·refine cF (!r_1_1) (nF hb_1) ?_
  refine Wp.skipN (by kernel_rfl) ?_
  refine seqQ_norm ?_
  refine sN ?_
  obtain ⟨e_3_15, hi_3_15, h⟩ := bsome h
  refine rg hc none [oN, oN, oN, oN, oN, oN, oN, oN, oN, oN, oN, oN, oN, some (.mk 2 true), oN, oN, some (.el (.agg [.str e_3_15.fword, I e_3_15.fkids, .bool e_3_15.fgrade, .bool e_3_15.ftyped])), oN, oN] [(2, .ra 1 0), (3, .bool true)] [(1, .box [.str e_3_15.fword, I e_3_15.fkids, .bool e_3_15.fgrade, .bool e_3_15.ftyped])] (ai (idx_own (enc := GForm_v) hi_3_15) (ai (idx_sl (enc := GForm_v) (x := .agg [.str e_3_15.fword, I e_3_15.fkids, .bool e_3_15.fgrade, .bool e_3_15.ftyped]) hi_3_15 (eq_GForm_v e_3_15)).2 trivial)) ?_
  refine seqQ_norm ?_
  refine Wp.retN (by kernel_rfl) ?_
  obtain rfl := Option.some.inj h
  exact RetQ.ret (fl := [true, true]) (by kernel_rfl)
 ·refine cT (!r_1_1) (nT hb_1) ?_
  refine sN ?_
  refine rg0 hc 3 [(2, .ra 1 0), (3, .bool false)] [(1, .box [.str ByteArray.empty, I 0, .bool false, .bool false])] ?_
  refine seqQ_norm ?_
  refine Wp.retN (by kernel_rfl) ?_
  refine seqQ_ret ?_
  obtain rfl := Option.some.inj h
  exact RetQ.ret (fl := [true, true]) (by kernel_rfl)
def impl_writtenSize_c1 (g0 : Int) : Option (Bool) :=
  (impl_within (g0, (-1), 15)) >>= fun r_1_1 =>
  some r_1_1
def M_impl_writtenSize_c1 (g0 : Int) (r : Bool) : Prop :=
 FnSound Try.prog 152 [I g0] (.bool r) []
theorem impl_writtenSize_c1_s : ∀ p r, impl_writtenSize_c1 p = some r → M_impl_writtenSize_c1 p r := by
 rintro g0 r h
 unfold impl_writtenSize_c1 at h
 show FnSound Try.prog 152 [I g0] (.bool r) []
 refine FnSound.body0 tiok (fn := Try.f152) (code := B152) (by kernel_rfl) (by kernel_rfl) (by kernel_rfl) (by kernel_rfl) (nt := 5) (by kernel_rfl) (by kernel_rfl) (T := [(0, I g0)]) (O := []) (by kernel_rfl) (by kernel_rfl) (fun c hc => ?_)
 refine sN ?_
 refine rg0 hc 1 [(0, I g0)] [] ?_
 refine seqQ_norm ?_
 refine sN ?_
 obtain ⟨r_1_1, hr_1_1, h⟩ := bsome h
 refine rg hc none [oN, oc (.bool r_1_1), oN] [(2, .bool r_1_1)] [] (ai (impl_within_s _ _ hr_1_1) (ai bod_64 (ai (oi (.bool r_1_1)) trivial))) ?_
 refine seqQ_norm ?_
 refine Wp.retN (by kernel_rfl) ?_
 obtain rfl := Option.some.inj h
 exact RetQ.ret (fl := [true]) (by kernel_rfl)
def impl_shape (code0 : Int) : Option (Int × Int) :=
  (impl_within (code0, 0, 2)) >>= fun r_1_1 =>
  if r_1_1 = true then
   some (code0, (-1))
  else
   (impl_within (code0, 3, 18)) >>= fun r_3_1 =>
   if r_3_1 = true then
    some (3, (wr (code0 - 3)))
   else
    (impl_within (code0, 19, 34)) >>= fun r_5_1 =>
    if r_5_1 = true then
     some (4, (wr (code0 - 19)))
    else
     if (code0 == 35) = true then
      some (3, (-1))
     else
      if (code0 == 36) = true then
       some (4, (-1))
      else
       some (5, (-1))
def M_impl_shape (code0 : Int) (r : Int × Int) : Prop :=
 FnSound Try.prog 103 [I code0] (.tup [I r.1, I r.2]) []
theorem impl_shape_s : ∀ p r, impl_shape p = some r → M_impl_shape p r := by
 rintro code0 r h
 unfold impl_shape at h
 show FnSound Try.prog 103 [I code0] (.tup [I r.1, I r.2]) []
 refine FnSound.body0 tiok (fn := Try.f103) (code := B103) (by kernel_rfl) (by kernel_rfl) (by kernel_rfl) (by kernel_rfl) (nt := 24) (by kernel_rfl) (by kernel_rfl) (T := [(0, I code0)]) (O := []) (by kernel_rfl) (by kernel_rfl) (fun c hc => ?_)
 refine sN ?_
 refine rg0 hc 2 [(0, I code0)] [] ?_
 refine seqQ_norm ?_
 refine sN ?_
 refine Wp.blockN (i := 0) (by kernel_rfl) ?_
 refine sN ?_
 obtain ⟨r_1_1, hr_1_1, h⟩ := bsome h
 refine rg hc none [oN, oc (.bool r_1_1), oN] [(0, I code0), (4, .bool r_1_1)] [] (ai (impl_within_s _ _ hr_1_1) (ai bod_64 (ai (oi (.bool r_1_1)) trivial))) ?_
 refine seqQ_norm ?_
 rcases itesome h with ⟨hb_1, h⟩ | ⟨hb_1, h⟩
 ·refine cT r_1_1 hb_1 ?_
  refine sN ?_
  refine rg0 hc 3 [(2, I code0), (3, I (-1))] [] ?_
  refine seqQ_norm ?_
  refine Wp.retN (by kernel_rfl) ?_
  refine blockQ_ret ?_
  refine seqQ_ret ?_
  obtain rfl := Option.some.inj h
  exact RetQ.ret (fl := [true, true]) (by kernel_rfl)
 ·refine cF r_1_1 hb_1 ?_
  refine sN ?_
  obtain ⟨r_3_1, hr_3_1, h⟩ := bsome h
  refine rg hc none [oN, oc (.bool r_3_1), oN] [(0, I code0), (8, .bool r_3_1)] [] (ai (impl_within_s _ _ hr_3_1) (ai bod_64 (ai (oi (.bool r_3_1)) trivial))) ?_
  refine seqQ_norm ?_
  rcases itesome h with ⟨hb_2, h⟩ | ⟨hb_2, h⟩
  ·refine cT r_3_1 hb_2 ?_
   refine sN ?_
   refine rg0 hc 4 [(2, I 3), (3, I (wr (code0 - 3)))] [] ?_
   refine seqQ_norm ?_
   refine Wp.retN (by kernel_rfl) ?_
   refine blockQ_ret ?_
   refine seqQ_ret ?_
   obtain rfl := Option.some.inj h
   exact RetQ.ret (fl := [true, true]) (by kernel_rfl)
  ·refine cF r_3_1 hb_2 ?_
   refine sN ?_
   obtain ⟨r_5_1, hr_5_1, h⟩ := bsome h
   refine rg hc none [oN, oc (.bool r_5_1), oN] [(0, I code0), (13, .bool r_5_1)] [] (ai (impl_within_s _ _ hr_5_1) (ai bod_64 (ai (oi (.bool r_5_1)) trivial))) ?_
   refine seqQ_norm ?_
   rcases itesome h with ⟨hb_3, h⟩ | ⟨hb_3, h⟩
   ·refine cT r_5_1 hb_3 ?_
    refine sN ?_
    refine rg0 hc 4 [(2, I 4), (3, I (wr (code0 - 19)))] [] ?_
    refine seqQ_norm ?_
    refine Wp.retN (by kernel_rfl) ?_
    refine blockQ_ret ?_
    refine seqQ_ret ?_
    obtain rfl := Option.some.inj h
    exact RetQ.ret (fl := [true, true]) (by kernel_rfl)
   ·refine cF r_5_1 hb_3 ?_
    refine sN ?_
    refine rg0 hc 3 [(0, I code0), (18, .bool (code0 == 35))] [] ?_
    refine seqQ_norm ?_
    rcases itesome h with ⟨hb_4, h⟩ | ⟨hb_4, h⟩
    ·refine cT ((code0 == 35)) hb_4 ?_
     refine sN ?_
     refine rg0 hc 2 [(2, I 3), (3, I (-1))] [] ?_
     refine seqQ_norm ?_
     refine Wp.retN (by kernel_rfl) ?_
     refine blockQ_ret ?_
     refine seqQ_ret ?_
     obtain rfl := Option.some.inj h
     exact RetQ.ret (fl := [true, true]) (by kernel_rfl)
    ·refine cF ((code0 == 35)) hb_4 ?_
     refine sN ?_
     refine rg0 hc 3 [(21, .bool (code0 == 36))] [] ?_
     refine seqQ_norm ?_
     rcases itesome h with ⟨hb_5, h⟩ | ⟨hb_5, h⟩
     ·refine cT ((code0 == 36)) hb_5 ?_
      refine sN ?_
      refine rg0 hc 2 [(2, I 4), (3, I (-1))] [] ?_
      refine seqQ_norm ?_
      refine Wp.retN (by kernel_rfl) ?_
      refine blockQ_ret ?_
      refine seqQ_ret ?_
      obtain rfl := Option.some.inj h
      exact RetQ.ret (fl := [true, true]) (by kernel_rfl)
     ·refine cF ((code0 == 36)) hb_5 ?_
      refine Wp.skipN (by kernel_rfl) ?_
      refine blockQ_norm ?_
      refine seqQ_norm ?_
      refine sN ?_
      refine rg0 hc 2 [(2, I 5), (3, I (-1))] [] ?_
      refine seqQ_norm ?_
      refine Wp.retN (by kernel_rfl) ?_
      obtain rfl := Option.some.inj h
      exact RetQ.ret (fl := [true, true]) (by kernel_rfl)
def impl_typeEnd (p : (List Int) × Int) : Option (Int) :=
 match p with
 | (ty0, at1) =>
  (
   if (decide (at1 < 0)) = true then
    some (true)
   else
    some ((decide (at1 ≥ (ty0.length : Int))))
  ) >>= fun v_1 =>
  if v_1 = true then
   some (-1)
  else
   (idx ty0 at1) >>= fun e_3_2 =>
   (impl_shape e_3_2) >>= fun (r_3_4_0, r_3_4_1) =>
   if (r_3_4_0 == 0) = true then
    some (wr (at1 + 1))
   else
    if (r_3_4_0 == 4) = true then
     (impl_typeEnd (ty0, (wr (at1 + 1)))) >>= fun r_8_3 =>
     some r_8_3
    else
     if (r_3_4_0 == 5) = true then
      some (-1)
     else
      (impl_typeEnd (ty0, (wr (at1 + 1)))) >>= fun r_11_4 =>
      (impl_typeEnd (ty0, r_11_4)) >>= fun r_11_5 =>
      some r_11_5
 partial_fixpoint
def M_impl_typeEnd (p : (List Int) × Int) (r : Int) : Prop :=
 match p with
 | (ty0, at1) => FnSound Try.prog 151 [sI ty0, I at1] (I r) []
theorem impl_typeEnd_s : ∀ p r, impl_typeEnd p = some r → M_impl_typeEnd p r := by
 refine impl_typeEnd.partial_correctness M_impl_typeEnd ?_
 rintro impl_typeEnd_f impl_typeEnd_ih ⟨ty0, at1⟩ r h
 show FnSound Try.prog 151 [sI ty0, I at1] (I r) []
 refine FnSound.body0 tiok (fn := Try.f151) (code := B151) (by kernel_rfl) (by kernel_rfl) (by kernel_rfl) (by kernel_rfl) (nt := 42) (by kernel_rfl) (by kernel_rfl) (T := [(0, sI ty0), (1, I at1)]) (O := []) (by kernel_rfl) (by kernel_rfl) (fun c hc => ?_)
 refine sN ?_
 refine rg0 hc 1 [(0, sI ty0), (1, I at1)] [] ?_
 refine seqQ_norm ?_
 refine sN ?_
 refine sN ?_
 obtain ⟨v_1, hj_2, h⟩ := bsome h
 refine Wp.into (x := .normal) (mkS [(0, sI ty0), (1, I at1), (14, .bool v_1)] []) ?_ ?_
 ·replace h := hj_2
  rcases itesome h with ⟨hb_1_0, h⟩ | ⟨hb_1_0, h⟩
  ·refine rg hc none [oN, oN, oN, o_, o_, o_, o_, oT] [(0, sI ty0), (1, I at1), (14, .bool true)] [] (ar 4 (neF hb_1_0) (ai hb_1_0 trivial)) ?_
   obtain rfl := Option.some.inj h
   exact Into.mk
  ·refine rg hc none [oN, oN, oN, oN, oN, some (.eqv (.no) ⟨[(12, I (ty0.length : Int))], [], []⟩), oN, oF] [(0, sI ty0), (1, I at1), (14, .bool (decide (at1 ≥ (ty0.length : Int))))] [] (ar 3 hb_1_0 (ai (lenT (d := 12) I ty0) (ar 2 hb_1_0 trivial))) ?_
   obtain rfl := Option.some.inj h
   exact Into.mk
 ·clear hj_2
  refine seqQ_norm ?_
  rcases itesome h with ⟨hb_3, h⟩ | ⟨hb_3, h⟩
  ·refine cT v_1 hb_3 ?_
   refine sN ?_
   refine rg0 hc 1 [(4, I (-1))] [] ?_
   refine seqQ_norm ?_
   refine Wp.retN (by kernel_rfl) ?_
   refine seqQ_ret ?_
   obtain rfl := Option.some.inj h
   exact RetQ.ret (fl := [true]) (by kernel_rfl)
  ·refine cF v_1 hb_3 ?_
   refine Wp.skipN (by kernel_rfl) ?_
   refine seqQ_norm ?_
   refine sN ?_
   obtain ⟨e_3_2, hi_3_2, h⟩ := bsome h
   obtain ⟨⟨r_3_4_0, r_3_4_1⟩, hr_3_4, h⟩ := bsome h
   refine rg hc none [oN, oN, some (.el (I e_3_2)), oN, oc (.tup [I r_3_4_0, I r_3_4_1]), oN, oN, oN, oN, oN] [(0, sI ty0), (1, I at1), (5, I r_3_4_0)] [] (ai (ix hi_3_2) (ai (impl_shape_s _ _ hr_3_4) (ai bod_103 (ai (oi (.tup [I r_3_4_0, I r_3_4_1])) trivial)))) ?_
   refine seqQ_norm ?_
   refine sN ?_
   refine sN ?_
   refine rg0 hc 1 [(0, sI ty0), (1, I at1), (23, I r_3_4_0)] [] ?_
   refine seqQ_norm ?_
   refine Wp.blockN (i := 0) (by kernel_rfl) ?_
   refine sN ?_
   refine rg0 hc 2 [(0, sI ty0), (1, I at1), (23, I r_3_4_0), (24, .bool (r_3_4_0 == 0))] [] ?_
   refine seqQ_norm ?_
   rcases itesome h with ⟨hb_4, h⟩ | ⟨hb_4, h⟩
   ·refine cT ((r_3_4_0 == 0)) hb_4 ?_
    refine sN ?_
    refine rg0 hc 3 [(4, I (wr (at1 + 1)))] [] ?_
    refine seqQ_norm ?_
    refine Wp.retN (by kernel_rfl) ?_
    refine blockQ_ret ?_
    refine seqQ_ret ?_
    obtain rfl := Option.some.inj h
    exact RetQ.ret (fl := [true]) (by kernel_rfl)
   ·refine cF ((r_3_4_0 == 0)) hb_4 ?_
    refine sN ?_
    refine rg0 hc 2 [(0, sI ty0), (1, I at1), (23, I r_3_4_0), (28, .bool (r_3_4_0 == 4))] [] ?_
    refine seqQ_norm ?_
    rcases itesome h with ⟨hb_5, h⟩ | ⟨hb_5, h⟩
    ·refine cT ((r_3_4_0 == 4)) hb_5 ?_
     refine sN ?_
     obtain ⟨r_8_3, hr_8_3, h⟩ := bsome h
     refine rg hc none [oN, oN, oN, oc (I r_8_3), oN] [(4, I r_8_3)] [] (ai (impl_typeEnd_ih _ _ hr_8_3) (ai bod_151 (ai (oi (I r_8_3)) trivial))) ?_
     refine seqQ_norm ?_
     refine Wp.retN (by kernel_rfl) ?_
     refine blockQ_ret ?_
     refine seqQ_ret ?_
     obtain rfl := Option.some.inj h
     exact RetQ.ret (fl := [true]) (by kernel_rfl)
    ·refine cF ((r_3_4_0 == 4)) hb_5 ?_
     refine sN ?_
     refine rg0 hc 2 [(0, sI ty0), (1, I at1), (34, .bool (r_3_4_0 == 5))] [] ?_
     refine seqQ_norm ?_
     rcases itesome h with ⟨hb_6, h⟩ | ⟨hb_6, h⟩
     ·refine cT ((r_3_4_0 == 5)) hb_6 ?_
      refine sN ?_
      refine rg0 hc 1 [(4, I (-1))] [] ?_
      refine seqQ_norm ?_
      refine Wp.retN (by kernel_rfl) ?_
      refine blockQ_ret ?_
      refine seqQ_ret ?_
      obtain rfl := Option.some.inj h
      exact RetQ.ret (fl := [true]) (by kernel_rfl)
     ·refine cF ((r_3_4_0 == 5)) hb_6 ?_
      refine Wp.skipN (by kernel_rfl) ?_
      refine blockQ_norm ?_
      refine seqQ_norm ?_
      refine sN ?_
      obtain ⟨r_11_4, hr_11_4, h⟩ := bsome h
      obtain ⟨r_11_5, hr_11_5, h⟩ := bsome h
      refine rg hc none [oN, oN, oN, oN, oc (I r_11_4), oc (I r_11_5), oN] [(4, I r_11_5)] [] (ai (impl_typeEnd_ih _ _ hr_11_4) (ai bod_151 (ai (oi (I r_11_4)) (ai (impl_typeEnd_ih _ _ hr_11_5) (ai bod_151 (ai (oi (I r_11_5)) trivial)))))) ?_
      refine seqQ_norm ?_
      refine Wp.retN (by kernel_rfl) ?_
      obtain rfl := Option.some.inj h
      exact RetQ.ret (fl := [true]) (by kernel_rfl)
def impl_isWrittenType (ty0 : (List Int)) : Option (Bool) :=
  (
   (impl_within ((ty0.length : Int), 1, 40)) >>= fun r_1_2 =>
   if r_1_2 = true then
    (impl_typeEnd (ty0, 0)) >>= fun r_1_5 =>
    some ((r_1_5 == (ty0.length : Int)))
   else
    some (false)
  ) >>= fun v_1 =>
  some v_1
def M_impl_isWrittenType (ty0 : (List Int)) (r : Bool) : Prop :=
 FnSound Try.prog 150 [sI ty0] (.bool r) []
theorem impl_isWrittenType_s : ∀ p r, impl_isWrittenType p = some r → M_impl_isWrittenType p r := by
 rintro ty0 r h
 unfold impl_isWrittenType at h
 show FnSound Try.prog 150 [sI ty0] (.bool r) []
 refine FnSound.body0 tiok (fn := Try.f150) (code := B150) (by kernel_rfl) (by kernel_rfl) (by kernel_rfl) (by kernel_rfl) (nt := 13) (by kernel_rfl) (by kernel_rfl) (T := [(0, sI ty0)]) (O := []) (by kernel_rfl) (by kernel_rfl) (fun c hc => ?_)
 refine sN ?_
 refine rg0 hc 1 [(0, sI ty0)] [] ?_
 refine seqQ_norm ?_
 refine sN ?_
 obtain ⟨v_1, hj_2, h⟩ := bsome h
 refine Wp.into (x := .normal) (mkS [(2, .bool v_1)] []) ?_ ?_
 ·replace h := hj_2
  obtain ⟨r_1_2, hr_1_2, h⟩ := bsome h
  rcases itesome h with ⟨hb_1_0, h⟩ | ⟨hb_1_0, h⟩
  ·obtain ⟨r_1_5, hr_1_5, h⟩ := bsome h
   refine rg hc none [oN, some (.eqv (.no) ⟨[(4, I (ty0.length : Int))], [], []⟩), oc (.bool r_1_2), oN, oN, oc (I r_1_5), oN, some (.eqv (.no) ⟨[(10, I (ty0.length : Int))], [], []⟩), oN, oT, oN] [(2, .bool (r_1_5 == (ty0.length : Int)))] [] (ai (lenT (d := 4) I ty0) (ai (impl_within_s _ _ hr_1_2) (ai bod_64 (ai (oi (.bool r_1_2)) (ar 2 hb_1_0 (ai (impl_typeEnd_s _ _ hr_1_5) (ai bod_151 (ai (oi (I r_1_5)) (ar 2 hb_1_0 (ai (lenT (d := 10) I ty0) (ar 2 hb_1_0 trivial))))))))))) ?_
   obtain rfl := Option.some.inj h
   exact Into.mk
  ·refine rg hc none [oN, some (.eqv (.no) ⟨[(4, I (ty0.length : Int))], [], []⟩), oc (.bool r_1_2), oN, o_, o_, o_, o_, o_, oF, oN] [(2, .bool false)] [] (ai (lenT (d := 4) I ty0) (ai (impl_within_s _ _ hr_1_2) (ai bod_64 (ai (oi (.bool r_1_2)) (ar 5 (neT hb_1_0) (ai hb_1_0 trivial)))))) ?_
   obtain rfl := Option.some.inj h
   exact Into.mk
 ·clear hj_2
  refine seqQ_norm ?_
  refine Wp.retN (by kernel_rfl) ?_
  obtain rfl := Option.some.inj h
  exact RetQ.ret (fl := [true]) (by kernel_rfl)
def impl_adds (p : Int × Int) : Option (Int) :=
 match p with
 | (op0, kid1) =>
  (
   if (op0 == 5) = true then
    some ((kid1 == 1))
   else
    some (false)
  ) >>= fun v_1 =>
  if v_1 = true then
   some 2
  else
   (
    if (op0 == 8) = true then
     some ((decide (kid1 > 0)))
    else
     some (false)
   ) >>= fun v_4 =>
   (
    if v_4 = true then
     some (v_4)
    else
     (
      if (op0 == 9) = true then
       some ((op0 == 9))
      else
       (
        if (op0 == 12) = true then
         some ((kid1 == 1))
        else
         some (false)
       ) >>= fun v_8 =>
       some (v_8)
     ) >>= fun j_10 =>
     some (j_10)
   ) >>= fun j_12 =>
   if j_12 = true then
    some 1
   else
    some 0
def M_impl_adds (p : Int × Int) (r : Int) : Prop :=
 match p with
 | (op0, kid1) => FnSound Try.prog 165 [I op0, I kid1] (I r) []
theorem impl_adds_s : ∀ p r, impl_adds p = some r → M_impl_adds p r := by
 rintro ⟨op0, kid1⟩ r h
 unfold impl_adds at h
 show FnSound Try.prog 165 [I op0, I kid1] (I r) []
 refine FnSound.body0 tiok (fn := Try.f165) (code := B165) (by kernel_rfl) (by kernel_rfl) (by kernel_rfl) (by kernel_rfl) (nt := 27) (by kernel_rfl) (by kernel_rfl) (T := [(0, I op0), (1, I kid1)]) (O := []) (by kernel_rfl) (by kernel_rfl) (fun c hc => ?_)
 refine sN ?_
 refine rg0 hc 1 [(0, I op0), (1, I kid1)] [] ?_
 refine seqQ_norm ?_
 refine sN ?_
 refine Wp.blockN (i := 0) (by kernel_rfl) ?_
 refine sN ?_
 obtain ⟨v_1, hj_2, h⟩ := bsome h
 refine Wp.into (x := .normal) (mkS [(0, I op0), (1, I kid1), (5, .bool v_1)] []) ?_ ?_
 ·replace h := hj_2
  rcases itesome h with ⟨hb_1_0, h⟩ | ⟨hb_1_0, h⟩
  ·refine rg hc none [oN, oN, oN, oN, oN, oT, oN] [(0, I op0), (1, I kid1), (5, .bool (kid1 == 1))] [] (ar 3 hb_1_0 trivial) ?_
   obtain rfl := Option.some.inj h
   exact Into.mk
  ·refine rg hc none [oN, oN, oN, o_, o_, oF, oN] [(0, I op0), (1, I kid1), (5, .bool false)] [] (ar 2 (neT hb_1_0) (ai hb_1_0 trivial)) ?_
   obtain rfl := Option.some.inj h
   exact Into.mk
 ·clear hj_2
  refine seqQ_norm ?_
  rcases itesome h with ⟨hb_3, h⟩ | ⟨hb_3, h⟩
  ·refine cT v_1 hb_3 ?_
   refine sN ?_
   refine rg0 hc 1 [(4, I 2)] [] ?_
   refine seqQ_norm ?_
   refine Wp.retN (by kernel_rfl) ?_
   refine blockQ_ret ?_
   refine seqQ_ret ?_
   obtain rfl := Option.some.inj h
   exact RetQ.ret (fl := [true]) (by kernel_rfl)
  ·refine cF v_1 hb_3 ?_
   refine sN ?_
   refine sN ?_
   obtain ⟨v_4, hj_5, h⟩ := bsome h
   refine Wp.into (x := .normal) (mkS [(0, I op0), (1, I kid1), (12, .bool v_4)] []) ?_ ?_
   ·replace h := hj_5
    rcases itesome h with ⟨hb_3_0, h⟩ | ⟨hb_3_0, h⟩
    ·refine rg hc none [oN, oN, oN, oN, oN, oT, oN] [(0, I op0), (1, I kid1), (12, .bool (decide (kid1 > 0)))] [] (ar 3 hb_3_0 trivial) ?_
     obtain rfl := Option.some.inj h
     exact Into.mk
    ·refine rg hc none [oN, oN, oN, o_, o_, oF, oN] [(0, I op0), (1, I kid1), (12, .bool false)] [] (ar 2 (neT hb_3_0) (ai hb_3_0 trivial)) ?_
     obtain rfl := Option.some.inj h
     exact Into.mk
   ·clear hj_5
    refine seqQ_norm ?_
    obtain ⟨j_12, hj_13, h⟩ := bsome h
    refine Wp.into (x := .normal) (mkS [(12, .bool j_12)] []) ?_ ?_
    ·replace h := hj_13
     rcases itesome h with ⟨hb_6, h⟩ | ⟨hb_6, h⟩
     ·refine cT v_4 hb_6 ?_
      refine Wp.skipN (by kernel_rfl) ?_
      obtain rfl := Option.some.inj h
      exact Into.view (fun a w hv => SRx.renL [] hv (by kernel_rfl) (by kernel_rfl) (by kernel_rfl))
     ·refine cF v_4 hb_6 ?_
      refine sN ?_
      refine rg0 hc 3 [(0, I op0), (1, I kid1), (12, .bool (op0 == 9))] [] ?_
      refine seqQ_norm ?_
      obtain ⟨j_10, hj_11, h⟩ := bsome h
      refine Wp.into (x := .normal) (mkS [(12, .bool j_10)] []) ?_ ?_
      ·replace h := hj_11
       rcases itesome h with ⟨hb_7, h⟩ | ⟨hb_7, h⟩
       ·refine cT ((op0 == 9)) hb_7 ?_
        refine Wp.skipN (by kernel_rfl) ?_
        obtain rfl := Option.some.inj h
        exact Into.view (fun a w hv => SRx.renL [] hv (by kernel_rfl) (by kernel_rfl) (by kernel_rfl))
       ·refine cF ((op0 == 9)) hb_7 ?_
        obtain ⟨v_8, hj_9, h⟩ := bsome h
        refine Wp.into (x := .normal) (mkS [(12, .bool v_8)] []) ?_ ?_
        ·replace h := hj_9
         rcases itesome h with ⟨hb_5_0, h⟩ | ⟨hb_5_0, h⟩
         ·refine rg hc none [oN, oN, oN, oN, oN, oT, oN] [(12, .bool (kid1 == 1))] [] (ar 3 hb_5_0 trivial) ?_
          obtain rfl := Option.some.inj h
          exact Into.mk
         ·refine rg hc none [oN, oN, oN, o_, o_, oF, oN] [(12, .bool false)] [] (ar 2 (neT hb_5_0) (ai hb_5_0 trivial)) ?_
          obtain rfl := Option.some.inj h
          exact Into.mk
        ·clear hj_9
         obtain rfl := Option.some.inj h
         exact Into.mk
      ·clear hj_11
       obtain rfl := Option.some.inj h
       exact Into.mk
    ·clear hj_13
     refine seqQ_norm ?_
     rcases itesome h with ⟨hb_14, h⟩ | ⟨hb_14, h⟩
     ·refine cT j_12 hb_14 ?_
      refine sN ?_
      refine rg0 hc 1 [(4, I 1)] [] ?_
      refine seqQ_norm ?_
      refine Wp.retN (by kernel_rfl) ?_
      refine blockQ_ret ?_
      refine seqQ_ret ?_
      obtain rfl := Option.some.inj h
      exact RetQ.ret (fl := [true]) (by kernel_rfl)
     ·refine cF j_12 hb_14 ?_
      refine Wp.skipN (by kernel_rfl) ?_
      refine blockQ_norm ?_
      refine seqQ_norm ?_
      refine sN ?_
      refine rg0 hc 1 [(4, I 0)] [] ?_
      refine seqQ_norm ?_
      refine Wp.retN (by kernel_rfl) ?_
      obtain rfl := Option.some.inj h
      exact RetQ.ret (fl := [true]) (by kernel_rfl)
def impl_check_Kimpl_writtenSize_c1_Kimpl_isWrittenType_F1 (c : Ctx) : (Int) ⊕ (Int) → Exit → AState → Prop
 | .inl nodes_27 => Into c (.exit 1) (mkS [(4, I nodes_27)] [])
 | .inr r => RetE TIx Try.f142 [] (I r)
mutual
def impl_check_Kimpl_writtenSize_c1_Kimpl_isWrittenType (p : GTerm × Int × Int) : Option (Int) :=
 match p with
 | (t0, n1, nodes4) =>
  (impl_formOf t0.fOp) >>= fun (r_2_2_0, r_2_2_1) =>
  (
   if r_2_2_1 = true then
    if (decide ((wr (nodes4 + 1)) > 400)) = true then
     some (true)
    else
     some (((t0.fKids.length : Int) != r_2_2_0.fkids))
   else
    some (true)
  ) >>= fun v_1 =>
  if v_1 = true then
   some 401
  else
   (
    if (t0.fOp == 0) = true then
     (impl_within (t0.fN, 0, (wr (n1 - 1)))) >>= fun r_7_4 =>
     some (r_7_4)
    else
     (
      if (t0.fOp == 1) = true then
       (impl_within (t0.fN, 0, 2)) >>= fun r_9_2 =>
       some (r_9_2)
      else
       (
        if r_2_2_0.fgrade = true then
         (impl_writtenSize_c1 t0.fN) >>= fun r_11_3 =>
         some (r_11_3)
        else
         some ((t0.fN == 0))
       ) >>= fun ok_7 =>
       some (ok_7)
     ) >>= fun ok_9 =>
     some (ok_9)
   ) >>= fun ok_11 =>
   (
    if r_2_2_0.ftyped = true then
     (
      if ok_11 = true then
       (impl_isWrittenType t0.fType) >>= fun r_13_5 =>
       some (r_13_5)
      else
       some (false)
     ) >>= fun ok_14 =>
     some (ok_14)
    else
     (
      if ok_11 = true then
       some (((t0.fType.length : Int) == 0))
      else
       some (false)
     ) >>= fun ok_16 =>
     some (ok_16)
   ) >>= fun ok_18 =>
   if ok_18 = true then
    (impl_check_Kimpl_writtenSize_c1_Kimpl_isWrittenType_l0 (t0, n1, (wr (nodes4 + 1)), 0)) >>= fun fl => match fl with
    | .inl nodes_27 =>
     some nodes_27
    | .inr r =>
     some r
   else
    some 401
 partial_fixpoint
def impl_check_Kimpl_writtenSize_c1_Kimpl_isWrittenType_l0 (p : GTerm × Int × Int × Int) : Option ((Int) ⊕ (Int)) :=
 match p with
 | (t0, n1, nodes_23, w_24) =>
  if (decide (w_24 < (t0.fKids.length : Int))) = true then
   (idx t0.fKids w_24) >>= fun e_19_1 =>
   (impl_adds (t0.fOp, w_24)) >>= fun r_20_5 =>
   (impl_check_Kimpl_writtenSize_c1_Kimpl_isWrittenType (e_19_1, (wr (n1 + r_20_5)), nodes_23)) >>= fun r_20_10 =>
   if (decide (r_20_10 > 400)) = true then
    some (.inr 401)
   else
    impl_check_Kimpl_writtenSize_c1_Kimpl_isWrittenType_l0 (t0, n1, r_20_10, (wr (w_24 + 1)))
  else
   some (.inl nodes_23)
 partial_fixpoint
end
def M_impl_check_Kimpl_writtenSize_c1_Kimpl_isWrittenType (p : GTerm × Int × Int) (r : Int) : Prop :=
 match p with
 | (t0, n1, nodes4) => FnSound Try.prog 142 [aTerm t0, I n1, .fn 152 [], .fn 150 [], I nodes4] (I r) []
def M_impl_check_Kimpl_writtenSize_c1_Kimpl_isWrittenType_l0 (p : GTerm × Int × Int × Int) (fl : (Int) ⊕ (Int)) : Prop :=
 match p with
 | (t0, n1, nodes_23, w_24) => ∀ c : Ctx, c.nt = 104 → WpL Try.prog c (cl (cl (cr (cl (cr (cr (cr (cr (cr (cr (cr B142))))))))))) (impl_check_Kimpl_writtenSize_c1_Kimpl_isWrittenType_F1 c fl) (mkS [(1, I n1), (2, .fn 152 []), (3, .fn 150 []), (4, I nodes_23), (5, .ra 1 0), (82, .sl (List.map GTerm_S t0.fKids)), (83, I (t0.fKids.length : Int)), (84, I w_24)] [(1, bTerm t0)])
theorem impl_check_Kimpl_writtenSize_c1_Kimpl_isWrittenType_all : (∀ p r, impl_check_Kimpl_writtenSize_c1_Kimpl_isWrittenType p = some r → M_impl_check_Kimpl_writtenSize_c1_Kimpl_isWrittenType p r) ∧ (∀ p r, impl_check_Kimpl_writtenSize_c1_Kimpl_isWrittenType_l0 p = some r → M_impl_check_Kimpl_writtenSize_c1_Kimpl_isWrittenType_l0 p r) := by
 refine impl_check_Kimpl_writtenSize_c1_Kimpl_isWrittenType.mutual_partial_correctness M_impl_check_Kimpl_writtenSize_c1_Kimpl_isWrittenType M_impl_check_Kimpl_writtenSize_c1_Kimpl_isWrittenType_l0 ?_ ?_
 ·rintro impl_check_Kimpl_writtenSize_c1_Kimpl_isWrittenType_l0_f impl_check_Kimpl_writtenSize_c1_Kimpl_isWrittenType_l0_ih ⟨t0, n1, nodes4⟩ r h
  show FnSound Try.prog 142 [aTerm t0, I n1, .fn 152 [], .fn 150 [], I nodes4] (I r) []
  refine FnSound.body0 tiok (fn := Try.f142) (code := B142) (by kernel_rfl) (by kernel_rfl) (by kernel_rfl) (by kernel_rfl) (nt := 104) (by kernel_rfl) (by kernel_rfl) (T := [(0, aTerm t0), (1, I n1), (2, .fn 152 []), (3, .fn 150 []), (4, I nodes4)]) (O := []) (by kernel_rfl) (by kernel_rfl) (fun c hc => ?_)
  refine sN ?_
  refine rg hc none [some (.new 1), oN] [(1, I n1), (2, .fn 152 []), (3, .fn 150 []), (4, I nodes4), (5, .ra 1 0)] [(1, bTerm t0)] trivial ?_
  refine seqQ_norm ?_
  refine sN ?_
  refine rg0 hc 3 [(1, I n1), (2, .fn 152 []), (3, .fn 150 []), (4, I (wr (nodes4 + 1))), (5, .ra 1 0)] [(1, bTerm t0)] ?_
  refine seqQ_norm ?_
  refine sN ?_
  obtain ⟨⟨r_2_2_0, r_2_2_1⟩, hr_2_2, h⟩ := bsome h
  refine rg hc none [oN, oN, oc (.tup [.agg [.str r_2_2_0.fword, I r_2_2_0.fkids, .bool r_2_2_0.fgrade, .bool r_2_2_0.ftyped], .bool r_2_2_1]), oN, oN, oN, some (.new 2), oN, oN] [(1, I n1), (2, .fn 152 []), (3, .fn 150 []), (4, I (wr (nodes4 + 1))), (5, .ra 1 0), (11, .ra 2 0), (12, .bool r_2_2_1)] [(1, bTerm t0), (2, .box [.str r_2_2_0.fword, I r_2_2_0.fkids, .bool r_2_2_0.fgrade, .bool r_2_2_0.ftyped])] (ai (impl_formOf_s _ _ hr_2_2) (ai bod_111 (ai (oi (.tup [.agg [.str r_2_2_0.fword, I r_2_2_0.fkids, .bool r_2_2_0.fgrade, .bool r_2_2_0.ftyped], .bool r_2_2_1])) trivial))) ?_
  refine seqQ_norm ?_
  refine sN ?_
  refine sN ?_
  obtain ⟨v_1, hj_2, h⟩ := bsome h
  refine Wp.into (x := .normal) (mkS [(1, I n1), (2, .fn 152 []), (3, .fn 150 []), (4, I (wr (nodes4 + 1))), (5, .ra 1 0), (11, .ra 2 0), (36, .bool v_1)] [(1, bTerm t0), (2, .box [.str r_2_2_0.fword, I r_2_2_0.fkids, .bool r_2_2_0.fgrade, .bool r_2_2_0.ftyped])]) ?_ ?_
  ·replace h := hj_2
   rcases itesome h with ⟨hb_3_0, h⟩ | ⟨hb_3_0, h⟩
   ·rcases itesome h with ⟨hb_3_1, h⟩ | ⟨hb_3_1, h⟩
    ·refine rg hc none [oN, oN, oN, oN, oN, oF, oN, o_, o_, o_, o_, o_, o_, oT] [(1, I n1), (2, .fn 152 []), (3, .fn 150 []), (4, I (wr (nodes4 + 1))), (5, .ra 1 0), (11, .ra 2 0), (36, .bool true)] [(1, bTerm t0), (2, .box [.str r_2_2_0.fword, I r_2_2_0.fkids, .bool r_2_2_0.fgrade, .bool r_2_2_0.ftyped])] (ar 3 (nF hb_3_0) (ar 6 (neF hb_3_1) (ai hb_3_1 trivial))) ?_
     obtain rfl := Option.some.inj h
     exact Into.mk
    ·refine rg hc none [oN, oN, oN, oN, oN, oF, oN, oN, oN, some (.eqv (.no) ⟨[(32, I (t0.fKids.length : Int))], [], []⟩), oN, oN, oN, oF] [(1, I n1), (2, .fn 152 []), (3, .fn 150 []), (4, I (wr (nodes4 + 1))), (5, .ra 1 0), (11, .ra 2 0), (36, .bool ((t0.fKids.length : Int) != r_2_2_0.fkids))] [(1, bTerm t0), (2, .box [.str r_2_2_0.fword, I r_2_2_0.fkids, .bool r_2_2_0.fgrade, .bool r_2_2_0.ftyped])] (ar 3 (nF hb_3_0) (ar 3 hb_3_1 (ai (lenT (d := 32) GTerm_S t0.fKids) (ar 4 hb_3_1 trivial)))) ?_
     obtain rfl := Option.some.inj h
     exact Into.mk
   ·refine rg hc none [oN, oN, oN, o_, o_, oT, oN, o_, o_, o_, o_, o_, o_, oT] [(1, I n1), (2, .fn 152 []), (3, .fn 150 []), (4, I (wr (nodes4 + 1))), (5, .ra 1 0), (11, .ra 2 0), (36, .bool true)] [(1, bTerm t0), (2, .box [.str r_2_2_0.fword, I r_2_2_0.fkids, .bool r_2_2_0.fgrade, .bool r_2_2_0.ftyped])] (ar 2 (neF (nT hb_3_0)) (ai (nT hb_3_0) (ar 6 nf (ai tt trivial)))) ?_
    obtain rfl := Option.some.inj h
    exact Into.mk
  ·clear hj_2
   refine seqQ_norm ?_
   rcases itesome h with ⟨hb_3, h⟩ | ⟨hb_3, h⟩
   ·refine cT v_1 hb_3 ?_
    refine sN ?_
    refine rg0 hc 1 [(10, I 401)] [] ?_
    refine seqQ_norm ?_
    refine Wp.retN (by kernel_rfl) ?_
    refine seqQ_ret ?_
    obtain rfl := Option.some.inj h
    exact RetQ.ret (fl := [true]) (by kernel_rfl)
   ·refine cF v_1 hb_3 ?_
    refine Wp.skipN (by kernel_rfl) ?_
    refine seqQ_norm ?_
    refine sN ?_
    refine Wp.blockN (i := 0) (by kernel_rfl) ?_
    refine sN ?_
    refine rg0 hc 4 [(1, I n1), (2, .fn 152 []), (3, .fn 150 []), (4, I (wr (nodes4 + 1))), (5, .ra 1 0), (11, .ra 2 0), (40, .bool (t0.fOp == 0))] [(1, bTerm t0), (2, .box [.str r_2_2_0.fword, I r_2_2_0.fkids, .bool r_2_2_0.fgrade, .bool r_2_2_0.ftyped])] ?_
    refine seqQ_norm ?_
    obtain ⟨ok_11, hj_12, h⟩ := bsome h
    refine Wp.into (x := .normal) (mkS [(1, I n1), (2, .fn 152 []), (3, .fn 150 []), (4, I (wr (nodes4 + 1))), (5, .ra 1 0), (11, .ra 2 0), (12, .bool ok_11)] [(1, bTerm t0), (2, .box [.str r_2_2_0.fword, I r_2_2_0.fkids, .bool r_2_2_0.fgrade, .bool r_2_2_0.ftyped])]) ?_ ?_
    ·replace h := hj_12
     rcases itesome h with ⟨hb_4, h⟩ | ⟨hb_4, h⟩
     ·refine cT ((t0.fOp == 0)) hb_4 ?_
      obtain ⟨r_7_4, hr_7_4, h⟩ := bsome h
      refine rg hc none [oN, oN, oN, oN, oc (.bool r_7_4), oN] [(1, I n1), (2, .fn 152 []), (3, .fn 150 []), (4, I (wr (nodes4 + 1))), (5, .ra 1 0), (11, .ra 2 0), (12, .bool r_7_4)] [(1, bTerm t0), (2, .box [.str r_2_2_0.fword, I r_2_2_0.fkids, .bool r_2_2_0.fgrade, .bool r_2_2_0.ftyped])] (ai (impl_within_s _ _ hr_7_4) (ai bod_64 (ai (oi (.bool r_7_4)) trivial))) ?_
      obtain rfl := Option.some.inj h
      exact Into.mk
     ·refine cF ((t0.fOp == 0)) hb_4 ?_
      refine sN ?_
      refine rg0 hc 4 [(1, I n1), (2, .fn 152 []), (3, .fn 150 []), (4, I (wr (nodes4 + 1))), (5, .ra 1 0), (11, .ra 2 0), (49, .bool (t0.fOp == 1))] [(1, bTerm t0), (2, .box [.str r_2_2_0.fword, I r_2_2_0.fkids, .bool r_2_2_0.fgrade, .bool r_2_2_0.ftyped])] ?_
      refine seqQ_norm ?_
      obtain ⟨ok_9, hj_10, h⟩ := bsome h
      refine Wp.into (x := .normal) (mkS [(1, I n1), (2, .fn 152 []), (3, .fn 150 []), (4, I (wr (nodes4 + 1))), (5, .ra 1 0), (11, .ra 2 0), (12, .bool ok_9)] [(1, bTerm t0), (2, .box [.str r_2_2_0.fword, I r_2_2_0.fkids, .bool r_2_2_0.fgrade, .bool r_2_2_0.ftyped])]) ?_ ?_
      ·replace h := hj_10
       rcases itesome h with ⟨hb_5, h⟩ | ⟨hb_5, h⟩
       ·refine cT ((t0.fOp == 1)) hb_5 ?_
        obtain ⟨r_9_2, hr_9_2, h⟩ := bsome h
        refine rg hc none [oN, oN, oc (.bool r_9_2), oN] [(1, I n1), (2, .fn 152 []), (3, .fn 150 []), (4, I (wr (nodes4 + 1))), (5, .ra 1 0), (11, .ra 2 0), (12, .bool r_9_2)] [(1, bTerm t0), (2, .box [.str r_2_2_0.fword, I r_2_2_0.fkids, .bool r_2_2_0.fgrade, .bool r_2_2_0.ftyped])] (ai (impl_within_s _ _ hr_9_2) (ai bod_64 (ai (oi (.bool r_9_2)) trivial))) ?_
        obtain rfl := Option.some.inj h
        exact Into.mk
       ·refine cF ((t0.fOp == 1)) hb_5 ?_
        refine sN ?_
        refine rg0 hc 3 [(1, I n1), (2, .fn 152 []), (3, .fn 150 []), (4, I (wr (nodes4 + 1))), (5, .ra 1 0), (11, .ra 2 0), (56, .bool r_2_2_0.fgrade)] [(1, bTerm t0), (2, .box [.str r_2_2_0.fword, I r_2_2_0.fkids, .bool r_2_2_0.fgrade, .bool r_2_2_0.ftyped])] ?_
        refine seqQ_norm ?_
        obtain ⟨ok_7, hj_8, h⟩ := bsome h
        refine Wp.into (x := .normal) (mkS [(1, I n1), (2, .fn 152 []), (3, .fn 150 []), (4, I (wr (nodes4 + 1))), (5, .ra 1 0), (11, .ra 2 0), (12, .bool ok_7)] [(1, bTerm t0), (2, .box [.str r_2_2_0.fword, I r_2_2_0.fkids, .bool r_2_2_0.fgrade, .bool r_2_2_0.ftyped])]) ?_ ?_
        ·replace h := hj_8
         rcases itesome h with ⟨hb_6, h⟩ | ⟨hb_6, h⟩
         ·refine cT r_2_2_0.fgrade hb_6 ?_
          obtain ⟨r_11_3, hr_11_3, h⟩ := bsome h
          refine rg hc none [oN, oN, oN, oc (.bool r_11_3), oN] [(1, I n1), (2, .fn 152 []), (3, .fn 150 []), (4, I (wr (nodes4 + 1))), (5, .ra 1 0), (11, .ra 2 0), (12, .bool r_11_3)] [(1, bTerm t0), (2, .box [.str r_2_2_0.fword, I r_2_2_0.fkids, .bool r_2_2_0.fgrade, .bool r_2_2_0.ftyped])] (ai (impl_writtenSize_c1_s _ _ hr_11_3) (ai bod_152 (ai (oi (.bool r_11_3)) trivial))) ?_
          obtain rfl := Option.some.inj h
          exact Into.mk
         ·refine cF r_2_2_0.fgrade hb_6 ?_
          refine rg0 hc 4 [(1, I n1), (2, .fn 152 []), (3, .fn 150 []), (4, I (wr (nodes4 + 1))), (5, .ra 1 0), (11, .ra 2 0), (12, .bool (t0.fN == 0))] [(1, bTerm t0), (2, .box [.str r_2_2_0.fword, I r_2_2_0.fkids, .bool r_2_2_0.fgrade, .bool r_2_2_0.ftyped])] ?_
          obtain rfl := Option.some.inj h
          exact Into.mk
        ·clear hj_8
         obtain rfl := Option.some.inj h
         exact Into.mk
      ·clear hj_10
       obtain rfl := Option.some.inj h
       exact Into.mk
    ·clear hj_12
     refine blockQ_norm ?_
     refine seqQ_norm ?_
     refine sN ?_
     refine sN ?_
     refine rg0 hc 2 [(1, I n1), (2, .fn 152 []), (3, .fn 150 []), (4, I (wr (nodes4 + 1))), (5, .ra 1 0), (12, .bool ok_11), (64, .bool r_2_2_0.ftyped)] [(1, bTerm t0)] ?_
     refine seqQ_norm ?_
     obtain ⟨ok_18, hj_19, h⟩ := bsome h
     refine Wp.into (x := .normal) (mkS [(1, I n1), (2, .fn 152 []), (3, .fn 150 []), (4, I (wr (nodes4 + 1))), (5, .ra 1 0), (12, .bool ok_18)] [(1, bTerm t0)]) ?_ ?_
     ·replace h := hj_19
      rcases itesome h with ⟨hb_13, h⟩ | ⟨hb_13, h⟩
      ·refine cT r_2_2_0.ftyped hb_13 ?_
       obtain ⟨ok_14, hj_15, h⟩ := bsome h
       refine Wp.into (x := .normal) (mkS [(1, I n1), (2, .fn 152 []), (3, .fn 150 []), (4, I (wr (nodes4 + 1))), (5, .ra 1 0), (12, .bool ok_14)] [(1, bTerm t0)]) ?_ ?_
       ·replace h := hj_15
        rcases itesome h with ⟨hb_13_0, h⟩ | ⟨hb_13_0, h⟩
        ·obtain ⟨r_13_5, hr_13_5, h⟩ := bsome h
         refine rg hc none [oN, oN, oN, oN, oN, oc (.bool r_13_5), oT, oN] [(1, I n1), (2, .fn 152 []), (3, .fn 150 []), (4, I (wr (nodes4 + 1))), (5, .ra 1 0), (12, .bool r_13_5)] [(1, bTerm t0)] (ar 4 hb_13_0 (ai (impl_isWrittenType_s _ _ hr_13_5) (ai bod_150 (ai (oi (.bool r_13_5)) (ai hb_13_0 trivial))))) ?_
         obtain rfl := Option.some.inj h
         exact Into.mk
        ·refine rg hc none [oN, oN, o_, o_, o_, o_, oF, oN] [(1, I n1), (2, .fn 152 []), (3, .fn 150 []), (4, I (wr (nodes4 + 1))), (5, .ra 1 0), (12, .bool false)] [(1, bTerm t0)] (ar 4 (neT hb_13_0) (ai hb_13_0 trivial)) ?_
         obtain rfl := Option.some.inj h
         exact Into.mk
       ·clear hj_15
        obtain rfl := Option.some.inj h
        exact Into.mk
      ·refine cF r_2_2_0.ftyped hb_13 ?_
       obtain ⟨ok_16, hj_17, h⟩ := bsome h
       refine Wp.into (x := .normal) (mkS [(1, I n1), (2, .fn 152 []), (3, .fn 150 []), (4, I (wr (nodes4 + 1))), (5, .ra 1 0), (12, .bool ok_16)] [(1, bTerm t0)]) ?_ ?_
       ·replace h := hj_17
        rcases itesome h with ⟨hb_14_0, h⟩ | ⟨hb_14_0, h⟩
        ·refine rg hc none [oN, oN, oN, oN, some (.eqv (.no) ⟨[(76, I (t0.fType.length : Int))], [], []⟩), oN, oT, oN] [(1, I n1), (2, .fn 152 []), (3, .fn 150 []), (4, I (wr (nodes4 + 1))), (5, .ra 1 0), (12, .bool ((t0.fType.length : Int) == 0))] [(1, bTerm t0)] (ar 3 hb_14_0 (ai (lenT (d := 76) I t0.fType) (ar 2 hb_14_0 trivial))) ?_
         obtain rfl := Option.some.inj h
         exact Into.mk
        ·refine rg hc none [oN, oN, o_, o_, o_, o_, oF, oN] [(1, I n1), (2, .fn 152 []), (3, .fn 150 []), (4, I (wr (nodes4 + 1))), (5, .ra 1 0), (12, .bool false)] [(1, bTerm t0)] (ar 4 (neT hb_14_0) (ai hb_14_0 trivial)) ?_
         obtain rfl := Option.some.inj h
         exact Into.mk
       ·clear hj_17
        obtain rfl := Option.some.inj h
        exact Into.mk
     ·clear hj_19
      refine seqQ_norm ?_
      refine sN ?_
      refine sN ?_
      refine rg0 hc 2 [(1, I n1), (2, .fn 152 []), (3, .fn 150 []), (4, I (wr (nodes4 + 1))), (5, .ra 1 0), (80, .bool (!ok_18))] [(1, bTerm t0)] ?_
      refine seqQ_norm ?_
      rcases itesome h with ⟨hb_20, h⟩ | ⟨hb_20, h⟩
      ·refine cF (!ok_18) (nF hb_20) ?_
       refine Wp.skipN (by kernel_rfl) ?_
       refine seqQ_norm ?_
       refine sN ?_
       refine sN ?_
       refine rg hc none [oN, oN, some (.eqv (.no) ⟨[(83, I (t0.fKids.length : Int))], [], []⟩), oN] [(1, I n1), (2, .fn 152 []), (3, .fn 150 []), (4, I (wr (nodes4 + 1))), (5, .ra 1 0), (82, .sl (List.map GTerm_S t0.fKids)), (83, I (t0.fKids.length : Int)), (84, I 0)] [(1, bTerm t0)] (ai (lenT (d := 83) GTerm_S t0.fKids) trivial) ?_
       refine seqQ_norm ?_
       refine Wp.blockN (i := 1) (by kernel_rfl) ?_
       obtain ⟨fl, hl_28, h⟩ := bsome h
       have hL := impl_check_Kimpl_writtenSize_c1_Kimpl_isWrittenType_l0_ih _ _ hl_28 c hc
       refine Wp.loopN (by kernel_rfl) ?_
       rcases fl with nodes_27 | r
       ·refine WpL.into (e := (.exit 1)) (mkS [(4, I nodes_27)] []) hL ?_
        refine blockQ_hit ?_
        refine seqQ_norm ?_
        refine sN ?_
        refine rg0 hc 2 [(10, I nodes_27)] [] ?_
        refine seqQ_norm ?_
        refine Wp.retN (by kernel_rfl) ?_
        obtain rfl := Option.some.inj h
        exact RetQ.ret (fl := [true]) (by kernel_rfl)
       ·refine WpL.mono hL ?_
        rintro _ _ ⟨rfl, hfin⟩
        refine blockQ_ret ?_
        refine seqQ_ret ?_
        obtain rfl := Option.some.inj h
        exact ⟨.inl rfl, hfin⟩
      ·refine cT (!ok_18) (nT hb_20) ?_
       refine sN ?_
       refine rg0 hc 1 [(10, I 401)] [] ?_
       refine seqQ_norm ?_
       refine Wp.retN (by kernel_rfl) ?_
       refine seqQ_ret ?_
       obtain rfl := Option.some.inj h
       exact RetQ.ret (fl := [true]) (by kernel_rfl)
 ·rintro impl_check_Kimpl_writtenSize_c1_Kimpl_isWrittenType_f impl_check_Kimpl_writtenSize_c1_Kimpl_isWrittenType_l0_f impl_check_Kimpl_writtenSize_c1_Kimpl_isWrittenType_ih impl_check_Kimpl_writtenSize_c1_Kimpl_isWrittenType_l0_ih ⟨t0, n1, nodes_23, w_24⟩ r h
  intro c hc
  show WpL Try.prog c (cl (cl (cr (cl (cr (cr (cr (cr (cr (cr (cr B142))))))))))) (impl_check_Kimpl_writtenSize_c1_Kimpl_isWrittenType_F1 c r) (mkS [(1, I n1), (2, .fn 152 []), (3, .fn 150 []), (4, I nodes_23), (5, .ra 1 0), (82, .sl (List.map GTerm_S t0.fKids)), (83, I (t0.fKids.length : Int)), (84, I w_24)] [(1, bTerm t0)])
  refine WpL.step ?_
  refine sN ?_
  refine rg0 hc 1 [(1, I n1), (2, .fn 152 []), (3, .fn 150 []), (4, I nodes_23), (5, .ra 1 0), (82, .sl (List.map GTerm_S t0.fKids)), (83, I (t0.fKids.length : Int)), (84, I w_24), (85, .bool (decide (w_24 < (t0.fKids.length : Int))))] [(1, bTerm t0)] ?_
  refine seqQ_norm ?_
  refine sN ?_
  rcases itesome h with ⟨hb_25, h⟩ | ⟨hb_25, h⟩
  ·refine cT ((decide (w_24 < (t0.fKids.length : Int)))) hb_25 ?_
   refine Wp.skipN (by kernel_rfl) ?_
   refine seqQ_norm ?_
   refine sN ?_
   refine Wp.blockN (i := 2) (by kernel_rfl) ?_
   refine sN ?_
   obtain ⟨e_19_1, hi_19_1, h⟩ := bsome h
   refine rg hc none [oN, some (.el (aTerm e_19_1)), oN, some (.new 4), oN, oN] [(1, I n1), (2, .fn 152 []), (3, .fn 150 []), (4, I nodes_23), (5, .ra 1 0), (13, I w_24), (14, .ra 4 0), (82, .sl (List.map GTerm_S t0.fKids)), (83, I (t0.fKids.length : Int)), (84, I w_24)] [(1, bTerm t0), (4, bTerm e_19_1)] (ai (idx_sl (enc := GTerm_S) (x := aTerm e_19_1) hi_19_1 (eq_GTerm_S e_19_1)) trivial) ?_
   refine seqQ_norm ?_
   refine sN ?_
   obtain ⟨r_20_5, hr_20_5, h⟩ := bsome h
   obtain ⟨r_20_10, hr_20_10, h⟩ := bsome h
   refine rg hc (rx [[0], [0], [0], [0, 2], [0], [0, 2, 3, 4], [0, 1, 2, 3, 4, 5], [0], [0], [0], [10], [11]]) [oN, oN, oN, oN, oN, oc (I r_20_5), oN, oN, oN, oN, oc (I r_20_10), oN] [(1, I n1), (2, .fn 152 []), (3, .fn 150 []), (4, I r_20_10), (5, .ra 1 0), (82, .sl (List.map GTerm_S t0.fKids)), (83, I (t0.fKids.length : Int)), (84, I w_24)] [(1, bTerm t0)] (ai (impl_adds_s _ _ hr_20_5) (ai bod_165 (ai (oi (I r_20_5)) (ai (impl_check_Kimpl_writtenSize_c1_Kimpl_isWrittenType_ih _ _ hr_20_10) (ai bod_142 (ai (oi (I r_20_10)) trivial)))))) ?_
   refine seqQ_norm ?_
   refine sN ?_
   refine rg0 hc 2 [(1, I n1), (2, .fn 152 []), (3, .fn 150 []), (4, I r_20_10), (5, .ra 1 0), (82, .sl (List.map GTerm_S t0.fKids)), (83, I (t0.fKids.length : Int)), (84, I w_24), (101, .bool (decide (r_20_10 > 400)))] [(1, bTerm t0)] ?_
   refine seqQ_norm ?_
   rcases itesome h with ⟨hb_26, h⟩ | ⟨hb_26, h⟩
   ·refine cT ((decide (r_20_10 > 400))) hb_26 ?_
    refine sN ?_
    refine rg0 hc 1 [(10, I 401)] [] ?_
    refine seqQ_norm ?_
    refine Wp.retN (by kernel_rfl) ?_
    refine blockQ_ret ?_
    refine seqQ_ret ?_
    refine loopQ_ret ?_
    obtain rfl := Option.some.inj h
    exact RetE.ret (fl := [true]) (by kernel_rfl)
   ·refine cF ((decide (r_20_10 > 400))) hb_26 ?_
    refine Wp.skipN (by kernel_rfl) ?_
    refine blockQ_norm ?_
    refine seqQ_norm ?_
    refine rg0 hc 2 [(1, I n1), (2, .fn 152 []), (3, .fn 150 []), (4, I r_20_10), (5, .ra 1 0), (82, .sl (List.map GTerm_S t0.fKids)), (83, I (t0.fKids.length : Int)), (84, I (wr (w_24 + 1)))] [(1, bTerm t0)] ?_
    refine loopQ_norm ?_
    exact (impl_check_Kimpl_writtenSize_c1_Kimpl_isWrittenType_l0_ih _ _ h c hc)
  ·refine cF ((decide (w_24 < (t0.fKids.length : Int)))) hb_25 ?_
   refine Wp.exitN (i := 1) (by kernel_rfl) ?_
   refine seqQ_exit ?_
   refine loopQ_exit ?_
   obtain rfl := Option.some.inj h
   exact Into.view (fun a w hv => SRx.renL [] hv (by kernel_rfl) (by kernel_rfl) (by kernel_rfl))
theorem impl_check_Kimpl_writtenSize_c1_Kimpl_isWrittenType_s : ∀ p r, impl_check_Kimpl_writtenSize_c1_Kimpl_isWrittenType p = some r → M_impl_check_Kimpl_writtenSize_c1_Kimpl_isWrittenType p r := impl_check_Kimpl_writtenSize_c1_Kimpl_isWrittenType_all.1
theorem impl_check_Kimpl_writtenSize_c1_Kimpl_isWrittenType_l0_s : ∀ p r, impl_check_Kimpl_writtenSize_c1_Kimpl_isWrittenType_l0 p = some r → M_impl_check_Kimpl_writtenSize_c1_Kimpl_isWrittenType_l0 p r := impl_check_Kimpl_writtenSize_c1_Kimpl_isWrittenType_all.2
def impl_writtenSize (t0 : GTerm) : Option (Int) :=
  (impl_check_Kimpl_writtenSize_c1_Kimpl_isWrittenType (t0, 8, 0)) >>= fun r_1_1 =>
  some r_1_1
def M_impl_writtenSize (t0 : GTerm) (r : Int) : Prop :=
 FnSound Try.prog 110 [aTerm t0] (I r) []
theorem impl_writtenSize_s : ∀ p r, impl_writtenSize p = some r → M_impl_writtenSize p r := by
 rintro t0 r h
 unfold impl_writtenSize at h
 show FnSound Try.prog 110 [aTerm t0] (I r) []
 refine FnSound.body0 tiok (fn := Try.f110) (code := B110) (by kernel_rfl) (by kernel_rfl) (by kernel_rfl) (by kernel_rfl) (nt := 5) (by kernel_rfl) (by kernel_rfl) (T := [(0, aTerm t0)]) (O := []) (by kernel_rfl) (by kernel_rfl) (fun c hc => ?_)
 refine sN ?_
 refine rg hc none [some (.new 1), oN] [(1, .ra 1 0)] [(1, bTerm t0)] trivial ?_
 refine seqQ_norm ?_
 refine sN ?_
 obtain ⟨r_1_1, hr_1_1, h⟩ := bsome h
 refine rg hc none [oN, oc (I r_1_1), oN] [(2, I r_1_1)] [] (ai (impl_check_Kimpl_writtenSize_c1_Kimpl_isWrittenType_s _ _ hr_1_1) (ai bod_142 (ai (oi (I r_1_1)) trivial))) ?_
 refine seqQ_norm ?_
 refine Wp.retN (by kernel_rfl) ?_
 obtain rfl := Option.some.inj h
 exact RetQ.ret (fl := [true]) (by kernel_rfl)
def impl_IsWritten (t0 : GTerm) : Option (Bool) :=
  (impl_writtenSize t0) >>= fun r_1_1 =>
  some (decide (r_1_1 ≤ 400))
def M_impl_IsWritten (t0 : GTerm) (r : Bool) : Prop :=
 FnSound Try.prog 60 [aTerm t0] (.bool r) []
theorem impl_IsWritten_s : ∀ p r, impl_IsWritten p = some r → M_impl_IsWritten p r := by
 rintro t0 r h
 unfold impl_IsWritten at h
 show FnSound Try.prog 60 [aTerm t0] (.bool r) []
 refine FnSound.body0 tiok (fn := Try.f60) (code := B60) (by kernel_rfl) (by kernel_rfl) (by kernel_rfl) (by kernel_rfl) (nt := 6) (by kernel_rfl) (by kernel_rfl) (T := [(0, aTerm t0)]) (O := []) (by kernel_rfl) (by kernel_rfl) (fun c hc => ?_)
 refine sN ?_
 refine rg hc none [some (.new 1), oN] [(1, .ra 1 0)] [(1, bTerm t0)] trivial ?_
 refine seqQ_norm ?_
 refine sN ?_
 obtain ⟨r_1_1, hr_1_1, h⟩ := bsome h
 refine rg hc none [oN, oc (I r_1_1), oN, oN] [(2, .bool (decide (r_1_1 ≤ 400)))] [] (ai (impl_writtenSize_s _ _ hr_1_1) (ai bod_110 (ai (oi (I r_1_1)) trivial))) ?_
 refine seqQ_norm ?_
 refine Wp.retN (by kernel_rfl) ?_
 obtain rfl := Option.some.inj h
 exact RetQ.ret (fl := [true]) (by kernel_rfl)
def impl_at_F1 (c : Ctx) : (Int × Int × (List Int) × (List GTerm)) ⊕ ((GTerm × Bool)) → Exit → AState → Prop
 | .inl (t_10, t_11, t_12, t_13) => Into c (.exit 0) (mkS [(2, .ra 1 0), (4, .ra 2 0)] [(1, .box [I t_10, I t_11, sI t_12, .sl (List.map GTerm_S t_13)]), (2, .box [I 0, I 0, .nils, .nils])])
 | .inr r => RetE TIx Try.f95 [] (.tup [.agg [I r.1.fOp, I r.1.fN, .sl (List.map I r.1.fType), .sl (List.map GTerm_S r.1.fKids)], .bool r.2])
def impl_at_l0 (p : (List Int) × Int × Int × (List Int) × (List GTerm) × Int) : Option ((Int × Int × (List Int) × (List GTerm)) ⊕ ((GTerm × Bool))) :=
 match p with
 | (path1, t_3, t_4, t_5, t_6, w_7) =>
  if (decide (w_7 < (path1.length : Int))) = true then
   (idx path1 w_7) >>= fun e_3_0 =>
   (impl_within (e_3_0, 0, (wr ((t_6.length : Int) - 1)))) >>= fun r_4_5 =>
   if r_4_5 = true then
    (idx t_6 e_3_0) >>= fun e_6_3 =>
    impl_at_l0 (path1, e_6_3.fOp, e_6_3.fN, e_6_3.fType, e_6_3.fKids, (wr (w_7 + 1)))
   else
    some (.inr ((GTerm.mk 0 0 [] []), false))
  else
   some (.inl (t_3, t_4, t_5, t_6))
 partial_fixpoint
def M_impl_at_l0 (p : (List Int) × Int × Int × (List Int) × (List GTerm) × Int) (fl : (Int × Int × (List Int) × (List GTerm)) ⊕ ((GTerm × Bool))) : Prop :=
 match p with
 | (path1, t_3, t_4, t_5, t_6, w_7) => ∀ c : Ctx, c.nt = 29 → WpL Try.prog c (cl (cl (cr (cl (cr B95))))) (impl_at_F1 c fl) (mkS [(2, .ra 1 0), (4, .ra 2 0), (8, sI path1), (9, I (path1.length : Int)), (10, I w_7)] [(1, .box [I t_3, I t_4, sI t_5, .sl (List.map GTerm_S t_6)]), (2, .box [I 0, I 0, .nils, .nils])])
theorem impl_at_l0_s : ∀ p r, impl_at_l0 p = some r → M_impl_at_l0 p r := by
 refine impl_at_l0.partial_correctness M_impl_at_l0 ?_
 rintro impl_at_l0_f impl_at_l0_ih ⟨path1, t_3, t_4, t_5, t_6, w_7⟩ r h
 intro c hc
 show WpL Try.prog c (cl (cl (cr (cl (cr B95))))) (impl_at_F1 c r) (mkS [(2, .ra 1 0), (4, .ra 2 0), (8, sI path1), (9, I (path1.length : Int)), (10, I w_7)] [(1, .box [I t_3, I t_4, sI t_5, .sl (List.map GTerm_S t_6)]), (2, .box [I 0, I 0, .nils, .nils])])
 refine WpL.step ?_
 refine sN ?_
 refine rg0 hc 1 [(2, .ra 1 0), (4, .ra 2 0), (8, sI path1), (9, I (path1.length : Int)), (10, I w_7), (11, .bool (decide (w_7 < (path1.length : Int))))] [(1, .box [I t_3, I t_4, sI t_5, .sl (List.map GTerm_S t_6)]), (2, .box [I 0, I 0, .nils, .nils])] ?_
 refine seqQ_norm ?_
 refine sN ?_
 rcases itesome h with ⟨hb_8, h⟩ | ⟨hb_8, h⟩
 ·refine cT ((decide (w_7 < (path1.length : Int)))) hb_8 ?_
  refine Wp.skipN (by kernel_rfl) ?_
  refine seqQ_norm ?_
  refine sN ?_
  refine Wp.blockN (i := 1) (by kernel_rfl) ?_
  refine sN ?_
  obtain ⟨e_3_0, hi_3_0, h⟩ := bsome h
  refine rg hc none [some (.el (I e_3_0)), oN, oN] [(2, .ra 1 0), (4, .ra 2 0), (7, I e_3_0), (8, sI path1), (9, I (path1.length : Int)), (10, I w_7)] [(1, .box [I t_3, I t_4, sI t_5, .sl (List.map GTerm_S t_6)]), (2, .box [I 0, I 0, .nils, .nils])] (ai (ix hi_3_0) trivial) ?_
  refine seqQ_norm ?_
  refine sN ?_
  refine sN ?_
  obtain ⟨r_4_5, hr_4_5, h⟩ := bsome h
  refine rg hc none [oN, oN, oN, some (.eqv (.no) ⟨[(17, I (t_6.length : Int))], [], []⟩), oN, oc (.bool r_4_5), oN] [(2, .ra 1 0), (4, .ra 2 0), (7, I e_3_0), (8, sI path1), (9, I (path1.length : Int)), (10, I w_7), (20, .bool (!r_4_5))] [(1, .box [I t_3, I t_4, sI t_5, .sl (List.map GTerm_S t_6)]), (2, .box [I 0, I 0, .nils, .nils])] (ai (lenT (d := 17) GTerm_S t_6) (ai (impl_within_s _ _ hr_4_5) (ai bod_64 (ai (oi (.bool r_4_5)) trivial)))) ?_
  refine seqQ_norm ?_
  rcases itesome h with ⟨hb_9, h⟩ | ⟨hb_9, h⟩
  ·refine cF (!r_4_5) (nF hb_9) ?_
   refine Wp.skipN (by kernel_rfl) ?_
   refine seqQ_norm ?_
   obtain ⟨e_6_3, hi_6_3, h⟩ := bsome h
   refine rg hc none [oN, oN, oN, some (.el (aTerm e_6_3)), oN, oN] [(2, .ra 1 0), (4, .ra 2 0), (8, sI path1), (9, I (path1.length : Int)), (10, I w_7)] [(1, bTerm e_6_3), (2, .box [I 0, I 0, .nils, .nils])] (ai (idx_sl (enc := GTerm_S) (x := aTerm e_6_3) hi_6_3 (eq_GTerm_S e_6_3)) trivial) ?_
   refine blockQ_norm ?_
   refine seqQ_norm ?_
   refine rg0 hc 2 [(2, .ra 1 0), (4, .ra 2 0), (8, sI path1), (9, I (path1.length : Int)), (10, I (wr (w_7 + 1)))] [(1, bTerm e_6_3), (2, .box [I 0, I 0, .nils, .nils])] ?_
   refine loopQ_norm ?_
   exact (impl_at_l0_ih _ _ h c hc)
  ·refine cT (!r_4_5) (nT hb_9) ?_
   refine sN ?_
   refine rg0 hc 3 [(4, .ra 2 0), (5, .bool false)] [(2, .box [I 0, I 0, .nils, .nils])] ?_
   refine seqQ_norm ?_
   refine Wp.retN (by kernel_rfl) ?_
   refine seqQ_ret ?_
   refine blockQ_ret ?_
   refine seqQ_ret ?_
   refine loopQ_ret ?_
   obtain rfl := Option.some.inj h
   exact RetE.ret (fl := [false, true]) (by kernel_rfl)
 ·refine cF ((decide (w_7 < (path1.length : Int)))) hb_8 ?_
  refine Wp.exitN (i := 0) (by kernel_rfl) ?_
  refine seqQ_exit ?_
  refine loopQ_exit ?_
  obtain rfl := Option.some.inj h
  exact Into.view (fun a w hv => SRx.renL [] hv (by kernel_rfl) (by kernel_rfl) (by kernel_rfl))
def impl_at (p : GTerm × (List Int)) : Option (GTerm × Bool) :=
 match p with
 | (t0, path1) =>
  (impl_at_l0 (path1, t0.fOp, t0.fN, t0.fType, t0.fKids, 0)) >>= fun fl => match fl with
  | .inl (t_10, t_11, t_12, t_13) =>
   some ((GTerm.mk t_10 t_11 t_12 t_13), true)
  | .inr r =>
   some r
def M_impl_at (p : GTerm × (List Int)) (r : GTerm × Bool) : Prop :=
 match p with
 | (t0, path1) => FnSound Try.prog 95 [aTerm t0, sI path1] (.tup [.agg [I r.1.fOp, I r.1.fN, .sl (List.map I r.1.fType), .sl (List.map GTerm_S r.1.fKids)], .bool r.2]) []
theorem impl_at_s : ∀ p r, impl_at p = some r → M_impl_at p r := by
 rintro ⟨t0, path1⟩ r h
 unfold impl_at at h
 show FnSound Try.prog 95 [aTerm t0, sI path1] (.tup [.agg [I r.1.fOp, I r.1.fN, .sl (List.map I r.1.fType), .sl (List.map GTerm_S r.1.fKids)], .bool r.2]) []
 refine FnSound.body0 tiok (fn := Try.f95) (code := B95) (by kernel_rfl) (by kernel_rfl) (by kernel_rfl) (by kernel_rfl) (nt := 29) (by kernel_rfl) (by kernel_rfl) (T := [(0, aTerm t0), (1, sI path1)]) (O := []) (by kernel_rfl) (by kernel_rfl) (fun c hc => ?_)
 refine sN ?_
 refine rg hc none [some (.new 1), some (.new 2), oN] [(1, sI path1), (2, .ra 1 0), (4, .ra 2 0)] [(1, bTerm t0), (2, .box [I 0, I 0, .nils, .nils])] trivial ?_
 refine seqQ_norm ?_
 refine sN ?_
 refine sN ?_
 refine rg hc none [oN, some (.eqv (.no) ⟨[(9, I (path1.length : Int))], [], []⟩), oN] [(2, .ra 1 0), (4, .ra 2 0), (8, sI path1), (9, I (path1.length : Int)), (10, I 0)] [(1, bTerm t0), (2, .box [I 0, I 0, .nils, .nils])] (ai (lenT (d := 9) I path1) trivial) ?_
 refine seqQ_norm ?_
 refine Wp.blockN (i := 0) (by kernel_rfl) ?_
 obtain ⟨fl, hl_14, h⟩ := bsome h
 have hL := impl_at_l0_s _ _ hl_14 c hc
 refine Wp.loopN (by kernel_rfl) ?_
 rcases fl with ⟨t_10, t_11, t_12, t_13⟩ | r
 ·refine WpL.into (e := (.exit 0)) (mkS [(2, .ra 1 0), (4, .ra 2 0)] [(1, .box [I t_10, I t_11, sI t_12, .sl (List.map GTerm_S t_13)]), (2, .box [I 0, I 0, .nils, .nils])]) hL ?_
  refine blockQ_hit ?_
  refine seqQ_norm ?_
  refine sN ?_
  refine rg0 hc 3 [(4, .ra 2 0), (5, .bool true)] [(2, .box [I t_10, I t_11, sI t_12, .sl (List.map GTerm_S t_13)])] ?_
  refine seqQ_norm ?_
  refine Wp.retN (by kernel_rfl) ?_
  obtain rfl := Option.some.inj h
  exact RetQ.ret (fl := [false, true]) (by kernel_rfl)
 ·refine WpL.mono hL ?_
  rintro _ _ ⟨rfl, hfin⟩
  refine blockQ_ret ?_
  refine seqQ_ret ?_
  obtain rfl := Option.some.inj h
  exact ⟨.inl rfl, hfin⟩
def impl_isRedex (t0 : GTerm) : Option (Bool) :=
  if ((t0.fKids.length : Int) == 0) = true then
   some false
  else
   (idx t0.fKids 0) >>= fun e_3_2 =>
   if (t0.fOp == 2) = true then
    (
     if (e_3_2.fOp == 1) = true then
      (idx t0.fKids 1) >>= fun e_6_5 =>
      some ((e_6_5.fOp == 1))
     else
      some (false)
    ) >>= fun v_3 =>
    some v_3
   else
    if (t0.fOp == 3) = true then
     some (e_3_2.fOp == 1)
    else
     if (t0.fOp == 10) = true then
      some (e_3_2.fOp == 9)
     else
      if (t0.fOp == 5) = true then
       some (e_3_2.fOp == 4)
      else
       if (t0.fOp == 8) = true then
        (
         if (e_3_2.fOp == 6) = true then
          some (true)
         else
          some ((e_3_2.fOp == 7))
        ) >>= fun v_9 =>
        some v_9
       else
        if (t0.fOp == 12) = true then
         some (e_3_2.fOp == 11)
        else
         some false
def M_impl_isRedex (t0 : GTerm) (r : Bool) : Prop :=
 FnSound Try.prog 96 [aTerm t0] (.bool r) []
theorem impl_isRedex_s : ∀ p r, impl_isRedex p = some r → M_impl_isRedex p r := by
 rintro t0 r h
 unfold impl_isRedex at h
 show FnSound Try.prog 96 [aTerm t0] (.bool r) []
 refine FnSound.body0 tiok (fn := Try.f96) (code := B96) (by kernel_rfl) (by kernel_rfl) (by kernel_rfl) (by kernel_rfl) (nt := 51) (by kernel_rfl) (by kernel_rfl) (T := [(0, aTerm t0)]) (O := []) (by kernel_rfl) (by kernel_rfl) (fun c hc => ?_)
 refine sN ?_
 refine rg hc none [some (.new 1), oN] [(1, .ra 1 0)] [(1, bTerm t0)] trivial ?_
 refine seqQ_norm ?_
 refine sN ?_
 refine sN ?_
 refine rg hc none [oN, oN, some (.eqv (.no) ⟨[(6, I (t0.fKids.length : Int))], [], []⟩), oN] [(1, .ra 1 0), (7, .bool ((t0.fKids.length : Int) == 0))] [(1, bTerm t0)] (ai (lenT (d := 6) GTerm_S t0.fKids) trivial) ?_
 refine seqQ_norm ?_
 rcases itesome h with ⟨hb_1, h⟩ | ⟨hb_1, h⟩
 ·refine cT (((t0.fKids.length : Int) == 0)) hb_1 ?_
  refine sN ?_
  refine rg0 hc 1 [(2, .bool false)] [] ?_
  refine seqQ_norm ?_
  refine Wp.retN (by kernel_rfl) ?_
  refine seqQ_ret ?_
  obtain rfl := Option.some.inj h
  exact RetQ.ret (fl := [true]) (by kernel_rfl)
 ·refine cF (((t0.fKids.length : Int) == 0)) hb_1 ?_
  refine Wp.skipN (by kernel_rfl) ?_
  refine seqQ_norm ?_
  refine sN ?_
  obtain ⟨e_3_2, hi_3_2, h⟩ := bsome h
  refine rg hc none [oN, oN, some (.el (aTerm e_3_2)), oN, oN, oN] [(1, .ra 1 0), (3, I e_3_2.fOp)] [(1, bTerm t0)] (ai (idx_sl (enc := GTerm_S) (x := aTerm e_3_2) hi_3_2 (eq_GTerm_S e_3_2)) trivial) ?_
  refine seqQ_norm ?_
  refine sN ?_
  refine sN ?_
  refine rg0 hc 2 [(1, .ra 1 0), (3, I e_3_2.fOp), (14, I t0.fOp)] [(1, bTerm t0)] ?_
  refine seqQ_norm ?_
  refine Wp.blockN (i := 0) (by kernel_rfl) ?_
  refine sN ?_
  refine rg0 hc 2 [(1, .ra 1 0), (3, I e_3_2.fOp), (14, I t0.fOp), (15, .bool (t0.fOp == 2))] [(1, bTerm t0)] ?_
  refine seqQ_norm ?_
  rcases itesome h with ⟨hb_2, h⟩ | ⟨hb_2, h⟩
  ·refine cT ((t0.fOp == 2)) hb_2 ?_
   refine sN ?_
   obtain ⟨v_3, hj_4, h⟩ := bsome h
   refine Wp.into (x := .normal) (mkS [(2, .bool v_3)] []) ?_ ?_
   ·replace h := hj_4
    rcases itesome h with ⟨hb_6_0, h⟩ | ⟨hb_6_0, h⟩
    ·obtain ⟨e_6_5, hi_6_5, h⟩ := bsome h
     refine rg hc none [oN, oN, oN, oN, oN, some (.el (aTerm e_6_5)), oN, oN, oN, oT, oN] [(2, .bool (e_6_5.fOp == 1))] [] (ar 3 hb_6_0 (ai (idx_sl (enc := GTerm_S) (x := aTerm e_6_5) hi_6_5 (eq_GTerm_S e_6_5)) (ar 4 hb_6_0 trivial))) ?_
     obtain rfl := Option.some.inj h
     exact Into.mk
    ·refine rg hc none [oN, oN, oN, o_, o_, o_, o_, o_, o_, oF, oN] [(2, .bool false)] [] (ar 6 (neT hb_6_0) (ai hb_6_0 trivial)) ?_
     obtain rfl := Option.some.inj h
     exact Into.mk
   ·clear hj_4
    refine seqQ_norm ?_
    refine Wp.retN (by kernel_rfl) ?_
    refine blockQ_ret ?_
    refine seqQ_ret ?_
    obtain rfl := Option.some.inj h
    exact RetQ.ret (fl := [true]) (by kernel_rfl)
  ·refine cF ((t0.fOp == 2)) hb_2 ?_
   refine sN ?_
   refine rg0 hc 2 [(3, I e_3_2.fOp), (14, I t0.fOp), (27, .bool (t0.fOp == 3))] [] ?_
   refine seqQ_norm ?_
   rcases itesome h with ⟨hb_5, h⟩ | ⟨hb_5, h⟩
   ·refine cT ((t0.fOp == 3)) hb_5 ?_
    refine sN ?_
    refine rg0 hc 3 [(2, .bool (e_3_2.fOp == 1))] [] ?_
    refine seqQ_norm ?_
    refine Wp.retN (by kernel_rfl) ?_
    refine blockQ_ret ?_
    refine seqQ_ret ?_
    obtain rfl := Option.some.inj h
    exact RetQ.ret (fl := [true]) (by kernel_rfl)
   ·refine cF ((t0.fOp == 3)) hb_5 ?_
    refine sN ?_
    refine rg0 hc 2 [(3, I e_3_2.fOp), (14, I t0.fOp), (31, .bool (t0.fOp == 10))] [] ?_
    refine seqQ_norm ?_
    rcases itesome h with ⟨hb_6, h⟩ | ⟨hb_6, h⟩
    ·refine cT ((t0.fOp == 10)) hb_6 ?_
     refine sN ?_
     refine rg0 hc 3 [(2, .bool (e_3_2.fOp == 9))] [] ?_
     refine seqQ_norm ?_
     refine Wp.retN (by kernel_rfl) ?_
     refine blockQ_ret ?_
     refine seqQ_ret ?_
     obtain rfl := Option.some.inj h
     exact RetQ.ret (fl := [true]) (by kernel_rfl)
    ·refine cF ((t0.fOp == 10)) hb_6 ?_
     refine sN ?_
     refine rg0 hc 2 [(3, I e_3_2.fOp), (14, I t0.fOp), (35, .bool (t0.fOp == 5))] [] ?_
     refine seqQ_norm ?_
     rcases itesome h with ⟨hb_7, h⟩ | ⟨hb_7, h⟩
     ·refine cT ((t0.fOp == 5)) hb_7 ?_
      refine sN ?_
      refine rg0 hc 3 [(2, .bool (e_3_2.fOp == 4))] [] ?_
      refine seqQ_norm ?_
      refine Wp.retN (by kernel_rfl) ?_
      refine blockQ_ret ?_
      refine seqQ_ret ?_
      obtain rfl := Option.some.inj h
      exact RetQ.ret (fl := [true]) (by kernel_rfl)
     ·refine cF ((t0.fOp == 5)) hb_7 ?_
      refine sN ?_
      refine rg0 hc 2 [(3, I e_3_2.fOp), (14, I t0.fOp), (39, .bool (t0.fOp == 8))] [] ?_
      refine seqQ_norm ?_
      rcases itesome h with ⟨hb_8, h⟩ | ⟨hb_8, h⟩
      ·refine cT ((t0.fOp == 8)) hb_8 ?_
       refine sN ?_
       obtain ⟨v_9, hj_10, h⟩ := bsome h
       refine Wp.into (x := .normal) (mkS [(2, .bool v_9)] []) ?_ ?_
       ·replace h := hj_10
        rcases itesome h with ⟨hb_14_0, h⟩ | ⟨hb_14_0, h⟩
        ·refine rg hc none [oN, oN, oN, o_, o_, oT, oN] [(2, .bool true)] [] (ar 2 (neF hb_14_0) (ai hb_14_0 trivial)) ?_
         obtain rfl := Option.some.inj h
         exact Into.mk
        ·refine rg hc none [oN, oN, oN, oN, oN, oF, oN] [(2, .bool (e_3_2.fOp == 7))] [] (ar 3 hb_14_0 trivial) ?_
         obtain rfl := Option.some.inj h
         exact Into.mk
       ·clear hj_10
        refine seqQ_norm ?_
        refine Wp.retN (by kernel_rfl) ?_
        refine blockQ_ret ?_
        refine seqQ_ret ?_
        obtain rfl := Option.some.inj h
        exact RetQ.ret (fl := [true]) (by kernel_rfl)
      ·refine cF ((t0.fOp == 8)) hb_8 ?_
       refine sN ?_
       refine rg0 hc 2 [(3, I e_3_2.fOp), (47, .bool (t0.fOp == 12))] [] ?_
       refine seqQ_norm ?_
       rcases itesome h with ⟨hb_11, h⟩ | ⟨hb_11, h⟩
       ·refine cT ((t0.fOp == 12)) hb_11 ?_
        refine sN ?_
        refine rg0 hc 3 [(2, .bool (e_3_2.fOp == 11))] [] ?_
        refine seqQ_norm ?_
        refine Wp.retN (by kernel_rfl) ?_
        refine blockQ_ret ?_
        refine seqQ_ret ?_
        obtain rfl := Option.some.inj h
        exact RetQ.ret (fl := [true]) (by kernel_rfl)
       ·refine cF ((t0.fOp == 12)) hb_11 ?_
        refine Wp.skipN (by kernel_rfl) ?_
        refine blockQ_norm ?_
        refine seqQ_norm ?_
        refine sN ?_
        refine rg0 hc 1 [(2, .bool false)] [] ?_
        refine seqQ_norm ?_
        refine Wp.retN (by kernel_rfl) ?_
        obtain rfl := Option.some.inj h
        exact RetQ.ret (fl := [true]) (by kernel_rfl)
def slices_Clone_int (s0 : (List Int)) : Option ((List Int)) :=
  (fits (([] : List Int).length + s0.length) 8) >>= fun _ =>
  some s0
def M_slices_Clone_int (s0 : (List Int)) (r : (List Int)) : Prop :=
 FnSound Try.prog 105 [sI s0] (.osl (List.map I r)) []
theorem slices_Clone_int_s : ∀ p r, slices_Clone_int p = some r → M_slices_Clone_int p r := by
 rintro s0 r h
 unfold slices_Clone_int at h
 show FnSound Try.prog 105 [sI s0] (.osl (List.map I r)) []
 refine FnSound.body0 tiok (fn := Try.f105) (code := B105) (by kernel_rfl) (by kernel_rfl) (by kernel_rfl) (by kernel_rfl) (nt := 8) (by kernel_rfl) (by kernel_rfl) (T := [(0, sI s0)]) (O := []) (by kernel_rfl) (by kernel_rfl) (fun c hc => ?_)
 refine sN ?_
 refine rg0 hc 1 [(0, sI s0)] [] ?_
 refine seqQ_norm ?_
 refine sN ?_
 refine sN ?_
 refine rg0 hc 2 [(0, sI s0), (4, .nilq (List.map I s0))] [] ?_
 refine seqQ_norm ?_
 refine Wp.condNil (xs := List.map I s0) (by kernel_rfl) (by kernel_rfl) (fun hn => ?_) ?_
 ·replace hn := List.map_eq_nil_iff.1 hn
  replace h : (some []) = some r := by rw [hn] at h; simpa [fits, chk] using h
  refine sN ?_
  refine rg0 hc 1 [(2, .nils)] [] ?_
  refine seqQ_norm ?_
  refine Wp.retN (by kernel_rfl) ?_
  refine seqQ_ret ?_
  obtain rfl := Option.some.inj h
  exact RetQ.ret (fl := [true]) (by kernel_rfl)
 ·refine Wp.skipN (by kernel_rfl) ?_
  refine seqQ_norm ?_
  refine sN ?_
  obtain ⟨_, hk_3_2, h⟩ := bsome h
  refine rg hc none [some (.mk 1 true), oN, some (.eqv (.mk 2 true) ⟨[(7, .rs 2)], [(2, some (.arr (List.map I s0))), (1, none)], [2]⟩), oN] [(2, .rs 2)] [(2, .arr (List.map I s0))] (ai (congrArg (fun z => (⟨[(7, .rs 2)], [(2, some (.arr z)), (1, none)], [2]⟩ : Wr)) (List.nil_append _ : [] ++ (List.map I s0) = List.map I s0)) (ai (app_ob (enc1 := I) (enc2 := I) (e1 := []) (e2 := s0) (sz := 1) ek_I ek_I hk_3_2) trivial)) ?_
  refine seqQ_norm ?_
  refine Wp.retN (by kernel_rfl) ?_
  obtain rfl := Option.some.inj h
  exact RetQ.ret (fl := [true]) (by kernel_rfl)
def impl_copyTerm_F1 (c : Ctx) (t0 : GTerm) (r_1_6 : List Int) : (List GTerm) → Exit → AState → Prop
 | out_6 => Into c (.exit 0) (mkS [(2, .ra 2 0), (3, .ra 4 0)] [(2, .box [I 0, I 0, .nils, .nils]), (3, .arr (List.map I r_1_6)), (4, .box [I t0.fOp, I t0.fN, .rs 3, .rs 10]), (10, .arr (List.map GTerm_O out_6))])
mutual
def impl_copyTerm (t0 : GTerm) : Option (GTerm) :=
  (slices_Clone_int t0.fType) >>= fun r_1_6 =>
  (impl_copyTerm_l0 (t0, r_1_6, [], 0)) >>= fun out_6 =>
  some (GTerm.mk t0.fOp t0.fN r_1_6 out_6)
 partial_fixpoint
def impl_copyTerm_l0 (p : GTerm × (List Int) × (List GTerm) × Int) : Option ((List GTerm)) :=
 match p with
 | (t0, r_1_6, out_4, w_2) =>
  if (decide (w_2 < (t0.fKids.length : Int))) = true then
   (idx t0.fKids w_2) >>= fun e_4_0 =>
   (impl_copyTerm e_4_0) >>= fun r_5_3 =>
   (fits (out_4.length + [r_5_3].length) 64) >>= fun _ =>
   impl_copyTerm_l0 (t0, r_1_6, (out_4 ++ [r_5_3]), (wr (w_2 + 1)))
  else
   some (out_4)
 partial_fixpoint
end
def M_impl_copyTerm (t0 : GTerm) (r : GTerm) : Prop :=
 FnSound Try.prog 130 [aTerm t0] (qTerm r) []
def M_impl_copyTerm_l0 (p : GTerm × (List Int) × (List GTerm) × Int) (fl : (List GTerm)) : Prop :=
 match p with
 | (t0, r_1_6, out_4, w_2) => ∀ c : Ctx, c.nt = 30 → WpL Try.prog c (cl (cl (cr (cl (cr (cr B130)))))) (impl_copyTerm_F1 c t0 r_1_6 fl) (mkS [(2, .ra 2 0), (3, .ra 4 0), (15, .sl (List.map GTerm_S t0.fKids)), (16, I (t0.fKids.length : Int)), (17, I w_2)] [(2, .box [I 0, I 0, .nils, .nils]), (3, .arr (List.map I r_1_6)), (4, .box [I t0.fOp, I t0.fN, .rs 3, .rs 10]), (10, .arr (List.map GTerm_O out_4))])
theorem impl_copyTerm_all : (∀ p r, impl_copyTerm p = some r → M_impl_copyTerm p r) ∧ (∀ p r, impl_copyTerm_l0 p = some r → M_impl_copyTerm_l0 p r) := by
 refine impl_copyTerm.mutual_partial_correctness M_impl_copyTerm M_impl_copyTerm_l0 ?_ ?_
 ·rintro impl_copyTerm_l0_f impl_copyTerm_l0_ih t0 r h
  show FnSound Try.prog 130 [aTerm t0] (qTerm r) []
  refine FnSound.body0 tiok (fn := Try.f130) (code := B130) (by kernel_rfl) (by kernel_rfl) (by kernel_rfl) (by kernel_rfl) (nt := 30) (by kernel_rfl) (by kernel_rfl) (T := [(0, aTerm t0)]) (O := []) (by kernel_rfl) (by kernel_rfl) (fun c hc => ?_)
  refine sN ?_
  refine rg hc none [some (.new 1), some (.new 2)] [(1, .ra 1 0), (2, .ra 2 0)] [(1, bTerm t0), (2, .box [I 0, I 0, .nils, .nils])] trivial ?_
  refine seqQ_norm ?_
  refine sN ?_
  obtain ⟨r_1_6, hr_1_6, h⟩ := bsome h
  refine rg hc (rx [[0], [1], [0], [0, 2], [0], [0, 4], [0, 4, 5], [7], [0], [9]]) [oN, oN, oN, oN, oN, oN, some (.call (.osl (List.map I r_1_6)) [] 3), oN, some (.new 4), oN] [(1, .ra 1 0), (2, .ra 2 0), (3, .ra 4 0)] [(1, bTerm t0), (2, .box [I 0, I 0, .nils, .nils]), (3, .arr (List.map I r_1_6)), (4, .box [I t0.fOp, I t0.fN, .rs 3, .nils])] (ai (slices_Clone_int_s _ _ hr_1_6) (ai bod_105 (ai (oi (.osl (List.map I r_1_6))) trivial))) ?_
  refine seqQ_norm ?_
  refine sN ?_
  refine sN ?_
  refine rg hc none [oN, oN, some (.eqv (.no) ⟨[(16, I (t0.fKids.length : Int))], [], []⟩), oN] [(2, .ra 2 0), (3, .ra 4 0), (15, .sl (List.map GTerm_S t0.fKids)), (16, I (t0.fKids.length : Int)), (17, I 0)] [(2, .box [I 0, I 0, .nils, .nils]), (3, .arr (List.map I r_1_6)), (4, .box [I t0.fOp, I t0.fN, .rs 3, .nils])] (ai (lenT (d := 16) GTerm_S t0.fKids) trivial) ?_
  refine seqQ_norm ?_
  refine Wp.blockN (i := 0) (by kernel_rfl) ?_
  obtain ⟨out_6, hl_7, h⟩ := bsome h
  have hL := impl_copyTerm_l0_ih _ _ hl_7 c hc
  refine Wp.loopN (by kernel_rfl) (WpL.view (fun a w hv => SRx.renL [(10, 21)] (SRx.nilBL 4 3 21 [I t0.fOp, I t0.fN, .rs 3, .nils] hv (by kernel_rfl) (by kernel_rfl) (by kernel_rfl)) (by kernel_rfl) (by kernel_rfl) (by kernel_rfl)) (?_ : WpL _ c _ _ (mkS [(2, .ra 2 0), (3, .ra 4 0), (15, .sl (List.map GTerm_S t0.fKids)), (16, I (t0.fKids.length : Int)), (17, I 0)] [(2, .box [I 0, I 0, .nils, .nils]), (3, .arr (List.map I r_1_6)), (4, .box [I t0.fOp, I t0.fN, .rs 3, .rs 10]), (10, .arr (List.map GTerm_O []))])))
  ·refine WpL.into (e := (.exit 0)) (mkS [(2, .ra 2 0), (3, .ra 4 0)] [(2, .box [I 0, I 0, .nils, .nils]), (3, .arr (List.map I r_1_6)), (4, .box [I t0.fOp, I t0.fN, .rs 3, .rs 10]), (10, .arr (List.map GTerm_O out_6))]) hL ?_
   refine blockQ_hit ?_
   refine seqQ_norm ?_
   refine sN ?_
   refine rg0 hc 2 [(2, .ra 2 0)] [(2, .box [I t0.fOp, I t0.fN, .rs 3, .rs 10]), (3, .arr (List.map I r_1_6)), (10, .arr (List.map GTerm_O out_6))] ?_
   refine seqQ_norm ?_
   refine Wp.retN (by kernel_rfl) ?_
   obtain rfl := Option.some.inj h
   exact RetQ.ret (fl := [true]) (by kernel_rfl)
 ·rintro impl_copyTerm_f impl_copyTerm_l0_f impl_copyTerm_ih impl_copyTerm_l0_ih ⟨t0, r_1_6, out_4, w_2⟩ r h
  intro c hc
  show WpL Try.prog c (cl (cl (cr (cl (cr (cr B130)))))) (impl_copyTerm_F1 c t0 r_1_6 r) (mkS [(2, .ra 2 0), (3, .ra 4 0), (15, .sl (List.map GTerm_S t0.fKids)), (16, I (t0.fKids.length : Int)), (17, I w_2)] [(2, .box [I 0, I 0, .nils, .nils]), (3, .arr (List.map I r_1_6)), (4, .box [I t0.fOp, I t0.fN, .rs 3, .rs 10]), (10, .arr (List.map GTerm_O out_4))])
  refine WpL.step ?_
  refine sN ?_
  refine rg0 hc 1 [(2, .ra 2 0), (3, .ra 4 0), (15, .sl (List.map GTerm_S t0.fKids)), (16, I (t0.fKids.length : Int)), (17, I w_2), (18, .bool (decide (w_2 < (t0.fKids.length : Int))))] [(2, .box [I 0, I 0, .nils, .nils]), (3, .arr (List.map I r_1_6)), (4, .box [I t0.fOp, I t0.fN, .rs 3, .rs 10]), (10, .arr (List.map GTerm_O out_4))] ?_
  refine seqQ_norm ?_
  refine sN ?_
  rcases itesome h with ⟨hb_5, h⟩ | ⟨hb_5, h⟩
  ·refine cT ((decide (w_2 < (t0.fKids.length : Int)))) hb_5 ?_
   refine Wp.skipN (by kernel_rfl) ?_
   refine seqQ_norm ?_
   refine sN ?_
   refine Wp.blockN (i := 1) (by kernel_rfl) ?_
   refine sN ?_
   obtain ⟨e_4_0, hi_4_0, h⟩ := bsome h
   refine rg hc none [some (.el (aTerm e_4_0)), oN, some (.new 16), oN] [(2, .ra 2 0), (3, .ra 4 0), (5, .ra 16 0), (15, .sl (List.map GTerm_S t0.fKids)), (16, I (t0.fKids.length : Int)), (17, I w_2)] [(2, .box [I 0, I 0, .nils, .nils]), (3, .arr (List.map I r_1_6)), (4, .box [I t0.fOp, I t0.fN, .rs 3, .rs 10]), (10, .arr (List.map GTerm_O out_4)), (16, bTerm e_4_0)] (ai (idx_sl (enc := GTerm_S) (x := aTerm e_4_0) hi_4_0 (eq_GTerm_S e_4_0)) trivial) ?_
   refine seqQ_norm ?_
   obtain ⟨r_5_3, hr_5_3, h⟩ := bsome h
   obtain ⟨_, hk_5_5, h⟩ := bsome h
   refine rg hc (rx [[0], [1], [0], [0, 2], [0, 2, 3], [5], [6], [7]]) [oN, oN, oN, some (.call (qTerm r_5_3) [] 17), some (.eqv (.mk 19 true) ⟨[(25, .rs 19)], [(19, some (.arr (List.map GTerm_O [r_5_3]))), (17, none), (18, none)], [19]⟩), some (.eqv (.mk 20 true) ⟨[(26, .rs 20)], [(20, some (.arr (List.map GTerm_O (out_4 ++ [r_5_3])))), (10, none), (19, none)], [20]⟩), oN, oN] [(2, .ra 2 0), (3, .ra 4 0), (15, .sl (List.map GTerm_S t0.fKids)), (16, I (t0.fKids.length : Int)), (17, I w_2)] [(2, .box [I 0, I 0, .nils, .nils]), (3, .arr (List.map I r_1_6)), (4, .box [I t0.fOp, I t0.fN, .rs 3, .rs 20]), (20, .arr (List.map GTerm_O (out_4 ++ [r_5_3])))] (ai (impl_copyTerm_ih _ _ hr_5_3) (ai bod_130 (ai (oi (qTerm r_5_3)) (ai (congrArg (fun z => (⟨[(25, .rs 19)], [(19, some (.arr z)), (17, none), (18, none)], [19]⟩ : Wr)) ((rows1 (eq_GTerm_O r_5_3) rows0) : [AV.agg [I r_5_3.fOp, I r_5_3.fN, AV.osl (List.map I r_5_3.fType), AV.osl (List.map GTerm_O r_5_3.fKids)]] = List.map GTerm_O [r_5_3])) (ai (congrArg (fun z => (⟨[(26, .rs 20)], [(20, some (.arr z)), (10, none), (19, none)], [20]⟩ : Wr)) ((List.map_append).symm : (List.map GTerm_O out_4) ++ (List.map GTerm_O [r_5_3]) = List.map GTerm_O (out_4 ++ [r_5_3]))) (ai (app_ob (enc1 := GTerm_O) (enc2 := GTerm_O) (e1 := out_4) (e2 := [r_5_3]) (sz := 4) ek_GTerm_O ek_GTerm_O hk_5_5) trivial)))))) ?_
   refine blockQ_norm ?_
   refine seqQ_norm ?_
   refine rg0 hc 2 [(2, .ra 2 0), (3, .ra 4 0), (15, .sl (List.map GTerm_S t0.fKids)), (16, I (t0.fKids.length : Int)), (17, I (wr (w_2 + 1)))] [(2, .box [I 0, I 0, .nils, .nils]), (3, .arr (List.map I r_1_6)), (4, .box [I t0.fOp, I t0.fN, .rs 3, .rs 20]), (20, .arr (List.map GTerm_O (out_4 ++ [r_5_3])))] ?_
   refine loopQ_norm ?_
   exact WpL.view (fun a w hv => SRx.renL [(10, 20)] hv (by kernel_rfl) (by kernel_rfl) (by kernel_rfl)) (impl_copyTerm_l0_ih _ _ h c hc)
  ·refine cF ((decide (w_2 < (t0.fKids.length : Int)))) hb_5 ?_
   refine Wp.exitN (i := 0) (by kernel_rfl) ?_
   refine seqQ_exit ?_
   refine loopQ_exit ?_
   obtain rfl := Option.some.inj h
   exact Into.view (fun a w hv => SRx.renL [] hv (by kernel_rfl) (by kernel_rfl) (by kernel_rfl))
theorem impl_copyTerm_s : ∀ p r, impl_copyTerm p = some r → M_impl_copyTerm p r := impl_copyTerm_all.1
theorem impl_copyTerm_l0_s : ∀ p r, impl_copyTerm_l0 p = some r → M_impl_copyTerm_l0 p r := impl_copyTerm_all.2
end Go.Am
