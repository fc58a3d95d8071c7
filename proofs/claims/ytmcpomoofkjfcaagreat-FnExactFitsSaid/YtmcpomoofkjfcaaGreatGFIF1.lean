/- Functions of the program as pure functions,and that it computes them. Printed by a program of mine (gen.py). -/
import Derived.Test.YtmcpomoofkjfcaaGreatGFIF0
set_option linter.unusedVariables false
set_option linter.unusedSimpArgs false
set_option maxRecDepth 100000
namespace Go.Am
open Go Go.Proofs
def ah1_0 : Option (List (List Nat)) := rh [0,0,0,3,0,0,0,7,8,9,10,10,12,13,14,14,14,17,18,19,20,21,21,21,24,25,26,27,28,29,29,29,32,33,34,35]
def ah1_1 : Option (List (List Nat)) := rx [[0],[0],[0],[0],[0,1,2,3],[0],[6],[0],[0],[0],[0],[0],[7,9,10,11],[13],[14],[15],[16],[16],[16],[16],[16,17,18,19],[16],[22],[16],[16],[16],[16],[16],[23,25,26,27],[29],[30],[31]]
def ah1_2 : Option (List (List Nat)) := rx [[0],[0],[0],[0],[0],[0,2,3,4],[6],[0],[0],[0],[0],[7,8,9,10],[0],[0],[0],[7,8,9,10,11,12,13,14],[16],[17],[18],[19],[19],[19],[19],[19,20,21,22],[19],[25],[19],[19],[19],[19],[26,27,28,29],[19],[19],[19],[26,27,28,29,30,31,32,33],[35],[36],[37]]
def ah1_3 : Option (List (List Nat)) := rx [[0],[0],[0],[0],[0,1,2,3],[0],[0],[0],[0,1,2,3,4,5,6,7],[9],[10],[11],[11],[11],[11],[11,12,13,14],[11],[11],[11],[11,12,13,14,15,16,17,18],[20],[21],[22],[23],[23],[23],[23],[23,24,25,26],[23],[23],[23],[23,24,25,26,27,28,29,30],[32],[33],[34]]
def spec_l1One (p : GSystem × Int) : Option (Bool) :=
 match p with
 | (s0,a1) =>
  ((
   (spec_l1Add (s0,0,a1)) >>= fun r_1_2 =>
   if (r_1_2 == a1) = true then
    (spec_l1Mul (s0,1,a1)) >>= fun r_1_8 =>
    if (r_1_8 == a1) = true then
     (spec_l1Mul (s0,a1,1)) >>= fun r_1_15 =>
     if (r_1_15 == a1) = true then
      (spec_l1Mul (s0,0,a1)) >>= fun r_1_22 =>
      if (r_1_22 == 0) = true then
       (spec_l1Mul (s0,a1,0)) >>= fun r_1_28 =>
       if (r_1_28 == 0) = true then
        (spec_l1Le (s0,a1,a1)) >>= fun r_1_35 =>
        some (r_1_35)
       else
        some (false)
      else
       some (false)
     else
      some (false)
    else
     some (false)
   else
    some (false)
  ) : Option (Bool)) >>= fun v_1 =>
  some v_1
def M_spec_l1One (p : GSystem × Int) (r : Bool) : Prop :=
 match p with
 | (s0,a1) => FnSound Tryz.prog 203 [aSystem s0,I a1] (.bool r) []
theorem spec_l1One_s : ∀ p r,spec_l1One p = some r → M_spec_l1One p r := by
 rintro ⟨s0,a1⟩ r h
 unfold spec_l1One at h
 refine b0 Tryz.f203 B203 42 [(0,aSystem s0),(1,I a1)] fun c hc => ?_
 refine rs hc none [some (.new 1),oN] [(1,I a1),(2,.ra 1 0)] [(1,bSystem s0)] trivial ?_
 refine sN ?_
 obtain ⟨v_1,hj_2,h⟩ := bsome h
 refine Wp.into (x := .normal) (mkS [(4,.bool v_1)] []) ?_ ?_
 ·replace h := hj_2
  obtain ⟨r_1_2,hr_1_2,h⟩ := bsome h
  rcases is h with ⟨hb_1_0,h⟩ | ⟨hb_1_0,h⟩
  ·obtain ⟨r_1_8,hr_1_8,h⟩ := bsome h
   rcases is h with ⟨hb_1_1,h⟩ | ⟨hb_1_1,h⟩
   ·obtain ⟨r_1_15,hr_1_15,h⟩ := bsome h
    rcases is h with ⟨hb_1_2,h⟩ | ⟨hb_1_2,h⟩
    ·obtain ⟨r_1_22,hr_1_22,h⟩ := bsome h
     rcases is h with ⟨hb_1_3,h⟩ | ⟨hb_1_3,h⟩
     ·obtain ⟨r_1_28,hr_1_28,h⟩ := bsome h
      rcases is h with ⟨hb_1_4,h⟩ | ⟨hb_1_4,h⟩
      ·obtain ⟨r_1_35,hr_1_35,h⟩ := bsome h
       refine rg hc none [oN,oN,oc (I r_1_2),oN,oN,oN,oN,oN,oc (I r_1_8),oN,oN,oT,oN,oN,oN,oc (I r_1_15),oN,oN,oT,oN,oN,oN,oc (I r_1_22),oN,oT,oN,oN,oN,oc (I r_1_28),oN,oT,oN,oN,oN,oN,oc (.bool r_1_35),oT,oN] [(4,.bool r_1_35)] [] (ai (spec_l1Add_s _ _ hr_1_2) (ai bod_206 (ai (oi (I r_1_2)) (ar 3 hb_1_0 (ai (spec_l1Mul_s _ _ hr_1_8) (ai bod_168 (ai (oi (I r_1_8)) (ar 3 hb_1_0 (ar 3 hb_1_1 (ai (spec_l1Mul_s _ _ hr_1_15) (ai bod_168 (ai (oi (I r_1_15)) (ar 3 hb_1_1 (ar 3 hb_1_2 (ai (spec_l1Mul_s _ _ hr_1_22) (ai bod_168 (ai (oi (I r_1_22)) (ar 2 hb_1_2 (ar 3 hb_1_3 (ai (spec_l1Mul_s _ _ hr_1_28) (ai bod_168 (ai (oi (I r_1_28)) (ar 2 hb_1_3 (ar 4 hb_1_4 (ai (spec_l1Le_s _ _ hr_1_35) (ai bod_149 (ai (oi (.bool r_1_35)) (ai hb_1_4 trivial)))))))))))))))))))))))))))) ?_
       obtain rfl := os h
       exact Into.mk
      refine rg hc none [oN,oN,oc (I r_1_2),oN,oN,oN,oN,oN,oc (I r_1_8),oN,oN,oT,oN,oN,oN,oc (I r_1_15),oN,oN,oT,oN,oN,oN,oc (I r_1_22),oN,oT,oN,oN,oN,oc (I r_1_28),oN,oT,oN,o_,o_,o_,o_,oF,oN] [(4,.bool false)] [] (ai (spec_l1Add_s _ _ hr_1_2) (ai bod_206 (ai (oi (I r_1_2)) (ar 3 hb_1_0 (ai (spec_l1Mul_s _ _ hr_1_8) (ai bod_168 (ai (oi (I r_1_8)) (ar 3 hb_1_0 (ar 3 hb_1_1 (ai (spec_l1Mul_s _ _ hr_1_15) (ai bod_168 (ai (oi (I r_1_15)) (ar 3 hb_1_1 (ar 3 hb_1_2 (ai (spec_l1Mul_s _ _ hr_1_22) (ai bod_168 (ai (oi (I r_1_22)) (ar 2 hb_1_2 (ar 3 hb_1_3 (ai (spec_l1Mul_s _ _ hr_1_28) (ai bod_168 (ai (oi (I r_1_28)) (ar 2 hb_1_3 (ar 4 (neT hb_1_4) (ai hb_1_4 trivial))))))))))))))))))))))))) ?_
      obtain rfl := os h
      exact Into.mk
     refine rg hc none [oN,oN,oc (I r_1_2),oN,oN,oN,oN,oN,oc (I r_1_8),oN,oN,oT,oN,oN,oN,oc (I r_1_15),oN,oN,oT,oN,oN,oN,oc (I r_1_22),oN,oT,oN,o_,o_,o_,o_,oF,oN,o_,o_,o_,o_,oF,oN] [(4,.bool false)] [] (ai (spec_l1Add_s _ _ hr_1_2) (ai bod_206 (ai (oi (I r_1_2)) (ar 3 hb_1_0 (ai (spec_l1Mul_s _ _ hr_1_8) (ai bod_168 (ai (oi (I r_1_8)) (ar 3 hb_1_0 (ar 3 hb_1_1 (ai (spec_l1Mul_s _ _ hr_1_15) (ai bod_168 (ai (oi (I r_1_15)) (ar 3 hb_1_1 (ar 3 hb_1_2 (ai (spec_l1Mul_s _ _ hr_1_22) (ai bod_168 (ai (oi (I r_1_22)) (ar 2 hb_1_2 (ar 4 (neT hb_1_3) (ai hb_1_3 (ar 4 (neT (rfl : false = false)) (ai (rfl : false = false) trivial)))))))))))))))))))))) ?_
     obtain rfl := os h
     exact Into.mk
    refine rg hc none [oN,oN,oc (I r_1_2),oN,oN,oN,oN,oN,oc (I r_1_8),oN,oN,oT,oN,oN,oN,oc (I r_1_15),oN,oN,oT,oN,o_,o_,o_,o_,oF,oN,o_,o_,o_,o_,oF,oN,o_,o_,o_,o_,oF,oN] [(4,.bool false)] [] (ai (spec_l1Add_s _ _ hr_1_2) (ai bod_206 (ai (oi (I r_1_2)) (ar 3 hb_1_0 (ai (spec_l1Mul_s _ _ hr_1_8) (ai bod_168 (ai (oi (I r_1_8)) (ar 3 hb_1_0 (ar 3 hb_1_1 (ai (spec_l1Mul_s _ _ hr_1_15) (ai bod_168 (ai (oi (I r_1_15)) (ar 3 hb_1_1 (ar 4 (neT hb_1_2) (ai hb_1_2 (ar 4 (neT (rfl : false = false)) (ai (rfl : false = false) (ar 4 (neT (rfl : false = false)) (ai (rfl : false = false) trivial))))))))))))))))))) ?_
    obtain rfl := os h
    exact Into.mk
   refine rg hc none [oN,oN,oc (I r_1_2),oN,oN,oN,oN,oN,oc (I r_1_8),oN,oN,oT,oN,o_,o_,o_,o_,o_,oF,oN,o_,o_,o_,o_,oF,oN,o_,o_,o_,o_,oF,oN,o_,o_,o_,o_,oF,oN] [(4,.bool false)] [] (ai (spec_l1Add_s _ _ hr_1_2) (ai bod_206 (ai (oi (I r_1_2)) (ar 3 hb_1_0 (ai (spec_l1Mul_s _ _ hr_1_8) (ai bod_168 (ai (oi (I r_1_8)) (ar 3 hb_1_0 (ar 5 (neT hb_1_1) (ai hb_1_1 (ar 4 (neT (rfl : false = false)) (ai (rfl : false = false) (ar 4 (neT (rfl : false = false)) (ai (rfl : false = false) (ar 4 (neT (rfl : false = false)) (ai (rfl : false = false) trivial)))))))))))))))) ?_
   obtain rfl := os h
   exact Into.mk
  refine rg hc none [oN,oN,oc (I r_1_2),oN,oN,oN,o_,o_,o_,o_,o_,oF,oN,o_,o_,o_,o_,o_,oF,oN,o_,o_,o_,o_,oF,oN,o_,o_,o_,o_,oF,oN,o_,o_,o_,o_,oF,oN] [(4,.bool false)] [] (ai (spec_l1Add_s _ _ hr_1_2) (ai bod_206 (ai (oi (I r_1_2)) (ar 5 (neT hb_1_0) (ai hb_1_0 (ar 5 (neT (rfl : false = false)) (ai (rfl : false = false) (ar 4 (neT (rfl : false = false)) (ai (rfl : false = false) (ar 4 (neT (rfl : false = false)) (ai (rfl : false = false) (ar 4 (neT (rfl : false = false)) (ai (rfl : false = false) trivial))))))))))))) ?_
  obtain rfl := os h
  exact Into.mk
 clear hj_2
 refine rt ?_
 obtain rfl := os h
 exact rq [true]
def spec_l1Join_F1 (c : Ctx) (s0 : GSystem) (a1 : Int) (b2 : Int) (g_19 : Int) : Bool → Exit → AState → Prop
 | ok_35 => Into c (.exit 2) (mkS [(1,I a1),(2,I b2),(3,.ra 1 0),(7,I g_19),(8,.bool ok_35)] [(1,bSystem s0)])
def spec_l1Join_l0 (p : GSystem × Int × Int × Int × Bool × Int) : Option (Bool) :=
 match p with
 | (s0,a1,b2,g_19,ok_28,h_29) =>
  ((
   if (decide (h_29 < s0.fSize)) = true then
    some (ok_28)
   else
    some (false)
  ) : Option (Bool)) >>= fun v_30 =>
  if v_30 = true then
   ((
    (spec_l1Le (s0,a1,h_29)) >>= fun r_8_3 =>
    if r_8_3 = true then
     (spec_l1Le (s0,b2,h_29)) >>= fun r_8_9 =>
     if r_8_9 = true then
      (spec_l1Le (s0,g_19,h_29)) >>= fun r_8_16 =>
      some (r_8_16)
     else
      some (true)
    else
     some (true)
   ) : Option (Bool)) >>= fun ok_33 =>
   spec_l1Join_l0 (s0,a1,b2,g_19,ok_33,(wr (h_29 + 1)))
  else
   some (ok_28)
 partial_fixpoint
def M_spec_l1Join_l0 (p : GSystem × Int × Int × Int × Bool × Int) (fl : Bool) : Prop :=
 match p with
 | (s0,a1,b2,g_19,ok_28,h_29) => ∀ c : Ctx,c.nt = 55 → WpL Tryz.prog c (cl (cl (cr (cl (cr (cl (cl (cr (cl (cl (cr (cl (cr B215))))))))))))) (spec_l1Join_F1 c s0 a1 b2 g_19 fl) (mkS [(1,I a1),(2,I b2),(3,.ra 1 0),(7,I g_19),(8,.bool ok_28),(9,I h_29)] [(1,bSystem s0)])
theorem spec_l1Join_l0_s : ∀ p r,spec_l1Join_l0 p = some r → M_spec_l1Join_l0 p r := by
 refine spec_l1Join_l0.partial_correctness M_spec_l1Join_l0 ?_
 rintro spec_l1Join_l0_f spec_l1Join_l0_ih ⟨s0,a1,b2,g_19,ok_28,h_29⟩ r h
 intro c hc
 refine WpL.step ?_
 refine sN ?_
 refine sN ?_
 obtain ⟨v_30,hj_31,h⟩ := bsome h
 refine Wp.into (x := .normal) (mkS [(1,I a1),(2,I b2),(3,.ra 1 0),(7,I g_19),(8,.bool ok_28),(9,I h_29),(32,.bool v_30)] [(1,bSystem s0)]) ?_ ?_
 ·replace h := hj_31
  rcases is h with ⟨hb_6_0,h⟩ | ⟨hb_6_0,h⟩
  ·refine rg hc none [oN,oN,oN,oN,oN,oN,oT] [(1,I a1),(2,I b2),(3,.ra 1 0),(7,I g_19),(8,.bool ok_28),(9,I h_29),(32,.bool ok_28)] [(1,bSystem s0)] (ar 2 hb_6_0 trivial) ?_
   obtain rfl := os h
   exact Into.mk
  refine rg hc none [oN,oN,oN,oN,oN,o_,oF] [(1,I a1),(2,I b2),(3,.ra 1 0),(7,I g_19),(8,.bool ok_28),(9,I h_29),(32,.bool false)] [(1,bSystem s0)] (ai (neT hb_6_0) (ai hb_6_0 trivial)) ?_
  obtain rfl := os h
  exact Into.mk
 clear hj_31
 rcases is h with ⟨hb_32,h⟩ | ⟨hb_32,h⟩
 ·refine cT v_30 hb_32 ?_
  refine sk ?_
  refine sN ?_
  refine bk 3 ?_
  obtain ⟨ok_33,hj_34,h⟩ := bsome h
  refine Wp.into (x := .normal) (mkS [(1,I a1),(2,I b2),(3,.ra 1 0),(7,I g_19),(8,.bool ok_33),(9,I h_29)] [(1,bSystem s0)]) ?_ ?_
  ·replace h := hj_34
   obtain ⟨r_8_3,hr_8_3,h⟩ := bsome h
   rcases is h with ⟨hb_8_0,h⟩ | ⟨hb_8_0,h⟩
   ·obtain ⟨r_8_9,hr_8_9,h⟩ := bsome h
    rcases is h with ⟨hb_8_1,h⟩ | ⟨hb_8_1,h⟩
    ·obtain ⟨r_8_16,hr_8_16,h⟩ := bsome h
     refine rg hc none [oN,oN,oN,oc (.bool r_8_3),oN,oN,oN,oN,oN,oc (.bool r_8_9),oN,oF,oN,oN,oN,oN,oc (.bool r_8_16),oF,oN] [(1,I a1),(2,I b2),(3,.ra 1 0),(7,I g_19),(8,.bool r_8_16),(9,I h_29)] [(1,bSystem s0)] (ai (spec_l1Le_s _ _ hr_8_3) (ai bod_149 (ai (oi (.bool r_8_3)) (ar 4 (nF hb_8_0) (ai (spec_l1Le_s _ _ hr_8_9) (ai bod_149 (ai (oi (.bool r_8_9)) (ar 2 (nF hb_8_0) (ar 4 (nF hb_8_1) (ai (spec_l1Le_s _ _ hr_8_16) (ai bod_149 (ai (oi (.bool r_8_16)) (ai (nF hb_8_1) trivial))))))))))))) ?_
     obtain rfl := os h
     exact Into.mk
    refine rg hc none [oN,oN,oN,oc (.bool r_8_3),oN,oN,oN,oN,oN,oc (.bool r_8_9),oN,oF,oN,o_,o_,o_,o_,oT,oN] [(1,I a1),(2,I b2),(3,.ra 1 0),(7,I g_19),(8,.bool true),(9,I h_29)] [(1,bSystem s0)] (ai (spec_l1Le_s _ _ hr_8_3) (ai bod_149 (ai (oi (.bool r_8_3)) (ar 4 (nF hb_8_0) (ai (spec_l1Le_s _ _ hr_8_9) (ai bod_149 (ai (oi (.bool r_8_9)) (ar 2 (nF hb_8_0) (ar 4 (neF (nT hb_8_1)) (ai (nT hb_8_1) trivial)))))))))) ?_
    obtain rfl := os h
    exact Into.mk
   refine rg hc none [oN,oN,oN,oc (.bool r_8_3),oN,oN,o_,o_,o_,o_,o_,oT,oN,o_,o_,o_,o_,oT,oN] [(1,I a1),(2,I b2),(3,.ra 1 0),(7,I g_19),(8,.bool true),(9,I h_29)] [(1,bSystem s0)] (ai (spec_l1Le_s _ _ hr_8_3) (ai bod_149 (ai (oi (.bool r_8_3)) (ar 5 (neF (nT hb_8_0)) (ai (nT hb_8_0) (ar 4 nf (ai tt trivial))))))) ?_
   obtain rfl := os h
   exact Into.mk
  clear hj_34
  refine rg0 hc 3 [(1,I a1),(2,I b2),(3,.ra 1 0),(7,I g_19),(8,.bool ok_33),(9,I (wr (h_29 + 1)))] [(1,bSystem s0)] ?_
  refine loopQ_norm ?_
  exact (spec_l1Join_l0_ih _ _ h c hc)
 refine cF v_30 hb_32 ?_
 refine xt 2 ?_
 refine seqQ_exit ?_
 refine loopQ_exit ?_
 obtain rfl := os h
 exact iv []
def spec_l1Join_F2 (c : Ctx) : (Unit) ⊕ (Int) → Exit → AState → Prop
 | .inl _ => Into c (.exit 0) (mkS [] [])
 | .inr r => RetE TIx Tryz.f215 [] (I r)
def spec_l1Join_l1 (p : GSystem × Int × Int × Int) : Option ((Unit) ⊕ (Int)) :=
 match p with
 | (s0,a1,b2,g_19) =>
  if (decide (g_19 < s0.fSize)) = true then
   ((
    (spec_l1Le (s0,a1,g_19)) >>= fun r_4_3 =>
    if r_4_3 = true then
     (spec_l1Le (s0,b2,g_19)) >>= fun r_4_8 =>
     some (r_4_8)
    else
     some (false)
   ) : Option (Bool)) >>= fun ok_21 =>
   (spec_l1Join_l0 (s0,a1,b2,g_19,ok_21,0)) >>= fun ok_35 =>
   if ok_35 = true then
    some (.inr g_19)
   else
    spec_l1Join_l1 (s0,a1,b2,(wr (g_19 + 1)))
  else
   some (.inl ())
 partial_fixpoint
def M_spec_l1Join_l1 (p : GSystem × Int × Int × Int) (fl : (Unit) ⊕ (Int)) : Prop :=
 match p with
 | (s0,a1,b2,g_19) => ∀ c : Ctx,c.nt = 55 → WpL Tryz.prog c (cl (cl (cr (cl (cr B215))))) (spec_l1Join_F2 c fl) (mkS [(1,I a1),(2,I b2),(3,.ra 1 0),(7,I g_19)] [(1,bSystem s0)])
theorem spec_l1Join_l1_s : ∀ p r,spec_l1Join_l1 p = some r → M_spec_l1Join_l1 p r := by
 refine spec_l1Join_l1.partial_correctness M_spec_l1Join_l1 ?_
 rintro spec_l1Join_l1_f spec_l1Join_l1_ih ⟨s0,a1,b2,g_19⟩ r h
 intro c hc
 refine WpL.step ?_
 refine sN ?_
 refine rs0 hc 4 [(1,I a1),(2,I b2),(3,.ra 1 0),(7,I g_19),(13,.bool (decide (g_19 < s0.fSize)))] [(1,bSystem s0)] ?_
 rcases is h with ⟨hb_20,h⟩ | ⟨hb_20,h⟩
 ·refine cT ((decide (g_19 < s0.fSize))) hb_20 ?_
  refine sk ?_
  refine sN ?_
  refine bk 1 ?_
  refine sN ?_
  obtain ⟨ok_21,hj_22,h⟩ := bsome h
  refine Wp.into (x := .normal) (mkS [(1,I a1),(2,I b2),(3,.ra 1 0),(7,I g_19),(8,.bool ok_21)] [(1,bSystem s0)]) ?_ ?_
  ·replace h := hj_22
   obtain ⟨r_4_3,hr_4_3,h⟩ := bsome h
   rcases is h with ⟨hb_4_0,h⟩ | ⟨hb_4_0,h⟩
   ·obtain ⟨r_4_8,hr_4_8,h⟩ := bsome h
    refine rg hc none [oN,oN,oN,oc (.bool r_4_3),oN,oN,oN,oN,oc (.bool r_4_8),oT,oN] [(1,I a1),(2,I b2),(3,.ra 1 0),(7,I g_19),(8,.bool r_4_8)] [(1,bSystem s0)] (ai (spec_l1Le_s _ _ hr_4_3) (ai bod_149 (ai (oi (.bool r_4_3)) (ar 4 hb_4_0 (ai (spec_l1Le_s _ _ hr_4_8) (ai bod_149 (ai (oi (.bool r_4_8)) (ai hb_4_0 trivial)))))))) ?_
    obtain rfl := os h
    exact Into.mk
   refine rg hc none [oN,oN,oN,oc (.bool r_4_3),oN,o_,o_,o_,o_,oF,oN] [(1,I a1),(2,I b2),(3,.ra 1 0),(7,I g_19),(8,.bool false)] [(1,bSystem s0)] (ai (spec_l1Le_s _ _ hr_4_3) (ai bod_149 (ai (oi (.bool r_4_3)) (ar 4 (neT hb_4_0) (ai hb_4_0 trivial))))) ?_
   obtain rfl := os h
   exact Into.mk
  clear hj_22
  refine sN ?_
  refine rs0 hc 1 [(1,I a1),(2,I b2),(3,.ra 1 0),(7,I g_19),(8,.bool ok_21),(9,I 0)] [(1,bSystem s0)] ?_
  refine bk 2 ?_
  obtain ⟨ok_35,hl_36,h⟩ := bsome h
  have hL := spec_l1Join_l0_s _ _ hl_36 c hc
  refine lp ?_
  refine WpL.into (e := (.exit 2)) (mkS [(1,I a1),(2,I b2),(3,.ra 1 0),(7,I g_19),(8,.bool ok_35)] [(1,bSystem s0)]) hL ?_
  refine blockQ_hit ?_
  refine rs0 hc 1 [(1,I a1),(2,I b2),(3,.ra 1 0),(7,I g_19),(53,.bool ok_35)] [(1,bSystem s0)] ?_
  rcases is h with ⟨hb_37,h⟩ | ⟨hb_37,h⟩
  ·refine cT ok_35 hb_37 ?_
   refine rs0 hc 2 [(6,I g_19)] [] ?_
   refine rt ?_
   obtain rfl := os h
   exact re [true]
  refine cF ok_35 hb_37 ?_
  refine sk ?_
  refine rg0 hc 3 [(1,I a1),(2,I b2),(3,.ra 1 0),(7,I (wr (g_19 + 1)))] [(1,bSystem s0)] ?_
  refine loopQ_norm ?_
  exact (spec_l1Join_l1_ih _ _ h c hc)
 refine cF ((decide (g_19 < s0.fSize))) hb_20 ?_
 refine xt 0 ?_
 refine seqQ_exit ?_
 refine loopQ_exit ?_
 obtain rfl := os h
 exact iv []
def spec_l1Join (p : GSystem × Int × Int) : Option (Int) :=
 match p with
 | (s0,a1,b2) =>
  (spec_l1Join_l1 (s0,a1,b2,0)) >>= fun fl => match fl with
  | .inl () =>
   some (-1)
  | .inr r =>
   some r
def M_spec_l1Join (p : GSystem × Int × Int) (r : Int) : Prop :=
 match p with
 | (s0,a1,b2) => FnSound Tryz.prog 215 [aSystem s0,I a1,I b2] (I r) []
theorem spec_l1Join_s : ∀ p r,spec_l1Join p = some r → M_spec_l1Join p r := by
 rintro ⟨s0,a1,b2⟩ r h
 unfold spec_l1Join at h
 refine b0 Tryz.f215 B215 55 [(0,aSystem s0),(1,I a1),(2,I b2)] fun c hc => ?_
 refine rs hc none [some (.new 1),oN] [(1,I a1),(2,I b2),(3,.ra 1 0)] [(1,bSystem s0)] trivial ?_
 refine sN ?_
 refine rs0 hc 1 [(1,I a1),(2,I b2),(3,.ra 1 0),(7,I 0)] [(1,bSystem s0)] ?_
 refine bk 0 ?_
 obtain ⟨fl,hl_38,h⟩ := bsome h
 have hL := spec_l1Join_l1_s _ _ hl_38 c hc
 refine lp ?_
 rcases fl with ⟨⟩ | r
 ·refine WpL.into (e := (.exit 0)) (mkS [] []) hL ?_
  refine blockQ_hit ?_
  refine rs0 hc 1 [(6,I (-1))] [] ?_
  refine rt ?_
  obtain rfl := os h
  exact rq [true]
 refine WpL.mono hL ?_
 rintro _ _ ⟨rfl,hfin⟩
 obtain rfl := os h
 exact ⟨.inl rfl,hfin⟩
def spec_l1Two (p : GSystem × Int × Int) : Option (Bool) :=
 match p with
 | (s0,a1,b2) =>
  ((
   (spec_l1Add (s0,a1,b2)) >>= fun r_1_3 =>
   (spec_l1Add (s0,b2,a1)) >>= fun r_1_7 =>
   if (r_1_3 == r_1_7) = true then
    if (a1 == b2) = true then
     (spec_l1Join (s0,a1,b2)) >>= fun r_1_32 =>
     some ((decide (r_1_32 ≥ 0)))
    else
     (spec_l1Le (s0,a1,b2)) >>= fun r_1_17 =>
     if r_1_17 = true then
      (spec_l1Le (s0,b2,a1)) >>= fun r_1_24 =>
      if r_1_24 = true then
       some (false)
      else
       (spec_l1Join (s0,a1,b2)) >>= fun r_1_32 =>
       some ((decide (r_1_32 ≥ 0)))
     else
      (spec_l1Join (s0,a1,b2)) >>= fun r_1_32 =>
      some ((decide (r_1_32 ≥ 0)))
   else
    some (false)
  ) : Option (Bool)) >>= fun v_1 =>
  some v_1
def M_spec_l1Two (p : GSystem × Int × Int) (r : Bool) : Prop :=
 match p with
 | (s0,a1,b2) => FnSound Tryz.prog 204 [aSystem s0,I a1,I b2] (.bool r) []
theorem spec_l1Two_s : ∀ p r,spec_l1Two p = some r → M_spec_l1Two p r := by
 rintro ⟨s0,a1,b2⟩ r h
 unfold spec_l1Two at h
 refine b0 Tryz.f204 B204 42 [(0,aSystem s0),(1,I a1),(2,I b2)] fun c hc => ?_
 refine rs hc none [some (.new 1),oN] [(1,I a1),(2,I b2),(3,.ra 1 0)] [(1,bSystem s0)] trivial ?_
 refine sN ?_
 obtain ⟨v_1,hj_2,h⟩ := bsome h
 refine Wp.into (x := .normal) (mkS [(6,.bool v_1)] []) ?_ ?_
 ·replace h := hj_2
  obtain ⟨r_1_3,hr_1_3,h⟩ := bsome h
  obtain ⟨r_1_7,hr_1_7,h⟩ := bsome h
  rcases is h with ⟨hb_1_0,h⟩ | ⟨hb_1_0,h⟩
  ·rcases is h with ⟨hb_1_1,h⟩ | ⟨hb_1_1,h⟩
   ·obtain ⟨r_1_32,hr_1_32,h⟩ := bsome h
    refine rg hc ah1_0 [oN,oN,oN,oc (I r_1_3),oN,oN,oN,oc (I r_1_7),oN,oN,oN,oN,oN,oN,o_,o_,o_,o_,o_,oT,oN,o_,o_,o_,o_,o_,oT,oT,oN,oN,oN,oN,oc (I r_1_32),oN,oT,oN] [(6,.bool (decide (r_1_32 ≥ 0)))] [] (ai (spec_l1Add_s _ _ hr_1_3) (ai bod_206 (ai (oi (I r_1_3)) (ai (spec_l1Add_s _ _ hr_1_7) (ai bod_206 (ai (oi (I r_1_7)) (ar 4 hb_1_0 (ar 5 (neF hb_1_1) (ai hb_1_0 (ai hb_1_1 (ai hb_1_0 (ar 5 nf (ai hb_1_0 (ai tt (ai hb_1_0 (ar 4 tt (ai (spec_l1Join_s _ _ hr_1_32) (ai bod_215 (ai (oi (I r_1_32)) (ar 2 tt trivial)))))))))))))))))))) ?_
    obtain rfl := os h
    exact Into.mk
   obtain ⟨r_1_17,hr_1_17,h⟩ := bsome h
   rcases is h with ⟨hb_1_2,h⟩ | ⟨hb_1_2,h⟩
   ·obtain ⟨r_1_24,hr_1_24,h⟩ := bsome h
    rcases is h with ⟨hb_1_3,h⟩ | ⟨hb_1_3,h⟩
    ·refine rg hc ah1_0 [oN,oN,oN,oc (I r_1_3),oN,oN,oN,oc (I r_1_7),oN,oN,oN,oN,oN,oN,oN,oN,oN,oc (.bool r_1_17),oN,oF,oN,oN,oN,oN,oc (.bool r_1_24),oN,oF,oT,oN,o_,o_,o_,o_,o_,oF,oN] [(6,.bool false)] [] (ai (spec_l1Add_s _ _ hr_1_3) (ai bod_206 (ai (oi (I r_1_3)) (ai (spec_l1Add_s _ _ hr_1_7) (ai bod_206 (ai (oi (I r_1_7)) (ar 4 hb_1_0 (ar 4 hb_1_1 (ai (spec_l1Le_s _ _ hr_1_17) (ai bod_149 (ai (oi (.bool r_1_17)) (ai hb_1_1 (ai hb_1_0 (ai hb_1_1 (ai hb_1_0 (ar 4 (nF hb_1_2) (ai (spec_l1Le_s _ _ hr_1_24) (ai bod_149 (ai (oi (.bool r_1_24)) (ai (nF hb_1_2) (ai hb_1_0 (ai (nF hb_1_2) (ai hb_1_0 (ar 5 (neT (nF hb_1_3)) (ai (nF hb_1_3) trivial))))))))))))))))))))))))) ?_
     obtain rfl := os h
     exact Into.mk
    obtain ⟨r_1_32,hr_1_32,h⟩ := bsome h
    refine rg hc ah1_0 [oN,oN,oN,oc (I r_1_3),oN,oN,oN,oc (I r_1_7),oN,oN,oN,oN,oN,oN,oN,oN,oN,oc (.bool r_1_17),oN,oF,oN,oN,oN,oN,oc (.bool r_1_24),oN,oF,oT,oN,oN,oN,oN,oc (I r_1_32),oN,oT,oN] [(6,.bool (decide (r_1_32 ≥ 0)))] [] (ai (spec_l1Add_s _ _ hr_1_3) (ai bod_206 (ai (oi (I r_1_3)) (ai (spec_l1Add_s _ _ hr_1_7) (ai bod_206 (ai (oi (I r_1_7)) (ar 4 hb_1_0 (ar 4 hb_1_1 (ai (spec_l1Le_s _ _ hr_1_17) (ai bod_149 (ai (oi (.bool r_1_17)) (ai hb_1_1 (ai hb_1_0 (ai hb_1_1 (ai hb_1_0 (ar 4 (nF hb_1_2) (ai (spec_l1Le_s _ _ hr_1_24) (ai bod_149 (ai (oi (.bool r_1_24)) (ai (nF hb_1_2) (ai hb_1_0 (ai (nF hb_1_2) (ai hb_1_0 (ar 4 (nT hb_1_3) (ai (spec_l1Join_s _ _ hr_1_32) (ai bod_215 (ai (oi (I r_1_32)) (ar 2 (nT hb_1_3) trivial)))))))))))))))))))))))))))) ?_
    obtain rfl := os h
    exact Into.mk
   obtain ⟨r_1_32,hr_1_32,h⟩ := bsome h
   refine rg hc ah1_0 [oN,oN,oN,oc (I r_1_3),oN,oN,oN,oc (I r_1_7),oN,oN,oN,oN,oN,oN,oN,oN,oN,oc (.bool r_1_17),oN,oF,oN,o_,o_,o_,o_,o_,oT,oT,oN,oN,oN,oN,oc (I r_1_32),oN,oT,oN] [(6,.bool (decide (r_1_32 ≥ 0)))] [] (ai (spec_l1Add_s _ _ hr_1_3) (ai bod_206 (ai (oi (I r_1_3)) (ai (spec_l1Add_s _ _ hr_1_7) (ai bod_206 (ai (oi (I r_1_7)) (ar 4 hb_1_0 (ar 4 hb_1_1 (ai (spec_l1Le_s _ _ hr_1_17) (ai bod_149 (ai (oi (.bool r_1_17)) (ai hb_1_1 (ai hb_1_0 (ai hb_1_1 (ai hb_1_0 (ar 5 (neF (nT hb_1_2)) (ai hb_1_0 (ai (nT hb_1_2) (ai hb_1_0 (ar 4 tt (ai (spec_l1Join_s _ _ hr_1_32) (ai bod_215 (ai (oi (I r_1_32)) (ar 2 tt trivial)))))))))))))))))))))))) ?_
   obtain rfl := os h
   exact Into.mk
  refine rg hc ah1_0 [oN,oN,oN,oc (I r_1_3),oN,oN,oN,oc (I r_1_7),oN,oN,o_,o_,o_,o_,o_,o_,o_,o_,o_,o_,o_,o_,o_,o_,o_,o_,o_,oF,oN,o_,o_,o_,o_,o_,oF,oN] [(6,.bool false)] [] (ai (spec_l1Add_s _ _ hr_1_3) (ai bod_206 (ai (oi (I r_1_3)) (ai (spec_l1Add_s _ _ hr_1_7) (ai bod_206 (ai (oi (I r_1_7)) (ar 7 (neT hb_1_0) (ai hb_1_0 (ar 5 (neT (rfl : false = false)) (ai (rfl : false = false) trivial)))))))))) ?_
  obtain rfl := os h
  exact Into.mk
 clear hj_2
 refine rt ?_
 obtain rfl := os h
 exact rq [true]
def spec_l1Three (p : GSystem × Int × Int × Int) : Option (Bool) :=
 match p with
 | (s0,a1,b2,c3) =>
  ((
   (spec_l1Add (s0,a1,b2)) >>= fun r_1_4 =>
   (spec_l1Add (s0,r_1_4,c3)) >>= fun r_1_6 =>
   (spec_l1Add (s0,b2,c3)) >>= fun r_1_12 =>
   (spec_l1Add (s0,a1,r_1_12)) >>= fun r_1_13 =>
   if (r_1_6 != r_1_13) = true then
    some (true)
   else
    (spec_l1Mul (s0,a1,b2)) >>= fun r_1_20 =>
    (spec_l1Mul (s0,r_1_20,c3)) >>= fun r_1_22 =>
    (spec_l1Mul (s0,b2,c3)) >>= fun r_1_28 =>
    (spec_l1Mul (s0,a1,r_1_28)) >>= fun r_1_29 =>
    some ((r_1_22 != r_1_29))
  ) : Option (Bool)) >>= fun v_1 =>
  if v_1 = true then
   some false
  else
   ((
    (spec_l1Add (s0,b2,c3)) >>= fun r_3_5 =>
    (spec_l1Mul (s0,a1,r_3_5)) >>= fun r_3_6 =>
    (spec_l1Mul (s0,a1,b2)) >>= fun r_3_11 =>
    (spec_l1Mul (s0,a1,c3)) >>= fun r_3_15 =>
    (spec_l1Add (s0,r_3_11,r_3_15)) >>= fun r_3_16 =>
    if (r_3_6 != r_3_16) = true then
     some (true)
    else
     (spec_l1Add (s0,a1,b2)) >>= fun r_3_23 =>
     (spec_l1Mul (s0,r_3_23,c3)) >>= fun r_3_25 =>
     (spec_l1Mul (s0,a1,c3)) >>= fun r_3_30 =>
     (spec_l1Mul (s0,b2,c3)) >>= fun r_3_34 =>
     (spec_l1Add (s0,r_3_30,r_3_34)) >>= fun r_3_35 =>
     some ((r_3_25 != r_3_35))
   ) : Option (Bool)) >>= fun v_4 =>
   if v_4 = true then
    some false
   else
    (spec_l1Le (s0,a1,b2)) >>= fun r_5_3 =>
    if r_5_3 = true then
     ((
      (spec_l1Le (s0,b2,c3)) >>= fun r_7_3 =>
      if r_7_3 = true then
       (spec_l1Le (s0,a1,c3)) >>= fun r_7_8 =>
       some ((!r_7_8))
      else
       some (false)
     ) : Option (Bool)) >>= fun v_8 =>
     if v_8 = true then
      some false
     else
      ((
       (spec_l1Add (s0,a1,c3)) >>= fun r_9_4 =>
       (spec_l1Add (s0,b2,c3)) >>= fun r_9_8 =>
       (spec_l1Le (s0,r_9_4,r_9_8)) >>= fun r_9_9 =>
       if r_9_9 = true then
        (spec_l1Mul (s0,a1,c3)) >>= fun r_9_15 =>
        (spec_l1Mul (s0,b2,c3)) >>= fun r_9_19 =>
        (spec_l1Le (s0,r_9_15,r_9_19)) >>= fun r_9_20 =>
        if r_9_20 = true then
         (spec_l1Mul (s0,c3,a1)) >>= fun r_9_27 =>
         (spec_l1Mul (s0,c3,b2)) >>= fun r_9_31 =>
         (spec_l1Le (s0,r_9_27,r_9_31)) >>= fun r_9_32 =>
         some (r_9_32)
        else
         some (false)
       else
        some (false)
      ) : Option (Bool)) >>= fun v_11 =>
      some v_11
    else
     some true
def M_spec_l1Three (p : GSystem × Int × Int × Int) (r : Bool) : Prop :=
 match p with
 | (s0,a1,b2,c3) => FnSound Tryz.prog 205 [aSystem s0,I a1,I b2,I c3] (.bool r) []
theorem spec_l1Three_s : ∀ p r,spec_l1Three p = some r → M_spec_l1Three p r := by
 rintro ⟨s0,a1,b2,c3⟩ r h
 unfold spec_l1Three at h
 refine b0 Tryz.f205 B205 129 [(0,aSystem s0),(1,I a1),(2,I b2),(3,I c3)] fun c hc => ?_
 refine rs hc none [some (.new 1),oN] [(1,I a1),(2,I b2),(3,I c3),(4,.ra 1 0)] [(1,bSystem s0)] trivial ?_
 refine sN ?_
 refine sN ?_
 obtain ⟨v_1,hj_2,h⟩ := bsome h
 refine Wp.into (x := .normal) (mkS [(1,I a1),(2,I b2),(3,I c3),(4,.ra 1 0),(40,.bool v_1)] [(1,bSystem s0)]) ?_ ?_
 ·replace h := hj_2
  obtain ⟨r_1_4,hr_1_4,h⟩ := bsome h
  obtain ⟨r_1_6,hr_1_6,h⟩ := bsome h
  obtain ⟨r_1_12,hr_1_12,h⟩ := bsome h
  obtain ⟨r_1_13,hr_1_13,h⟩ := bsome h
  rcases is h with ⟨hb_1_0,h⟩ | ⟨hb_1_0,h⟩
  ·refine rg hc ah1_1 [oN,oN,oN,oN,oc (I r_1_4),oN,oc (I r_1_6),oN,oN,oN,oN,oN,oc (I r_1_12),oc (I r_1_13),oN,oN,o_,o_,o_,o_,o_,o_,o_,o_,o_,o_,o_,o_,o_,o_,o_,oT] [(1,I a1),(2,I b2),(3,I c3),(4,.ra 1 0),(40,.bool true)] [(1,bSystem s0)] (ai (spec_l1Add_s _ _ hr_1_4) (ai bod_206 (ai (oi (I r_1_4)) (ai (spec_l1Add_s _ _ hr_1_6) (ai bod_206 (ai (oi (I r_1_6)) (ai (spec_l1Add_s _ _ hr_1_12) (ai bod_206 (ai (oi (I r_1_12)) (ai (spec_l1Add_s _ _ hr_1_13) (ai bod_206 (ai (oi (I r_1_13)) (ar 15 (neF hb_1_0) (ai hb_1_0 trivial)))))))))))))) ?_
   obtain rfl := os h
   exact Into.mk
  obtain ⟨r_1_20,hr_1_20,h⟩ := bsome h
  obtain ⟨r_1_22,hr_1_22,h⟩ := bsome h
  obtain ⟨r_1_28,hr_1_28,h⟩ := bsome h
  obtain ⟨r_1_29,hr_1_29,h⟩ := bsome h
  refine rg hc ah1_1 [oN,oN,oN,oN,oc (I r_1_4),oN,oc (I r_1_6),oN,oN,oN,oN,oN,oc (I r_1_12),oc (I r_1_13),oN,oN,oN,oN,oN,oN,oc (I r_1_20),oN,oc (I r_1_22),oN,oN,oN,oN,oN,oc (I r_1_28),oc (I r_1_29),oN,oF] [(1,I a1),(2,I b2),(3,I c3),(4,.ra 1 0),(40,.bool (r_1_22 != r_1_29))] [(1,bSystem s0)] (ai (spec_l1Add_s _ _ hr_1_4) (ai bod_206 (ai (oi (I r_1_4)) (ai (spec_l1Add_s _ _ hr_1_6) (ai bod_206 (ai (oi (I r_1_6)) (ai (spec_l1Add_s _ _ hr_1_12) (ai bod_206 (ai (oi (I r_1_12)) (ai (spec_l1Add_s _ _ hr_1_13) (ai bod_206 (ai (oi (I r_1_13)) (ar 5 hb_1_0 (ai (spec_l1Mul_s _ _ hr_1_20) (ai bod_168 (ai (oi (I r_1_20)) (ar 2 hb_1_0 (ai (spec_l1Mul_s _ _ hr_1_22) (ai bod_168 (ai (oi (I r_1_22)) (ar 6 hb_1_0 (ai (spec_l1Mul_s _ _ hr_1_28) (ai bod_168 (ai (oi (I r_1_28)) (ai hb_1_0 (ai (spec_l1Mul_s _ _ hr_1_29) (ai bod_168 (ai (oi (I r_1_29)) (ar 2 hb_1_0 trivial))))))))))))))))))))))))))))) ?_
  obtain rfl := os h
  exact Into.mk
 clear hj_2
 rcases is h with ⟨hb_3,h⟩ | ⟨hb_3,h⟩
 ·refine cT v_1 hb_3 ?_
  refine rs0 hc 1 [(8,.bool false)] [] ?_
  refine rt ?_
  obtain rfl := os h
  exact rq [true]
 refine cF v_1 hb_3 ?_
 refine sk ?_
 refine sN ?_
 refine sN ?_
 obtain ⟨v_4,hj_5,h⟩ := bsome h
 refine Wp.into (x := .normal) (mkS [(1,I a1),(2,I b2),(3,I c3),(4,.ra 1 0),(78,.bool v_4)] [(1,bSystem s0)]) ?_ ?_
 ·replace h := hj_5
  obtain ⟨r_3_5,hr_3_5,h⟩ := bsome h
  obtain ⟨r_3_6,hr_3_6,h⟩ := bsome h
  obtain ⟨r_3_11,hr_3_11,h⟩ := bsome h
  obtain ⟨r_3_15,hr_3_15,h⟩ := bsome h
  obtain ⟨r_3_16,hr_3_16,h⟩ := bsome h
  rcases is h with ⟨hb_3_0,h⟩ | ⟨hb_3_0,h⟩
  ·refine rg hc ah1_2 [oN,oN,oN,oN,oN,oc (I r_3_5),oc (I r_3_6),oN,oN,oN,oN,oc (I r_3_11),oN,oN,oN,oc (I r_3_15),oc (I r_3_16),oN,oN,o_,o_,o_,o_,o_,o_,o_,o_,o_,o_,o_,o_,o_,o_,o_,o_,o_,o_,oT] [(1,I a1),(2,I b2),(3,I c3),(4,.ra 1 0),(78,.bool true)] [(1,bSystem s0)] (ai (spec_l1Add_s _ _ hr_3_5) (ai bod_206 (ai (oi (I r_3_5)) (ai (spec_l1Mul_s _ _ hr_3_6) (ai bod_168 (ai (oi (I r_3_6)) (ai (spec_l1Mul_s _ _ hr_3_11) (ai bod_168 (ai (oi (I r_3_11)) (ai (spec_l1Mul_s _ _ hr_3_15) (ai bod_168 (ai (oi (I r_3_15)) (ai (spec_l1Add_s _ _ hr_3_16) (ai bod_206 (ai (oi (I r_3_16)) (ar 18 (neF hb_3_0) (ai hb_3_0 trivial))))))))))))))))) ?_
   obtain rfl := os h
   exact Into.mk
  obtain ⟨r_3_23,hr_3_23,h⟩ := bsome h
  obtain ⟨r_3_25,hr_3_25,h⟩ := bsome h
  obtain ⟨r_3_30,hr_3_30,h⟩ := bsome h
  obtain ⟨r_3_34,hr_3_34,h⟩ := bsome h
  obtain ⟨r_3_35,hr_3_35,h⟩ := bsome h
  refine rg hc ah1_2 [oN,oN,oN,oN,oN,oc (I r_3_5),oc (I r_3_6),oN,oN,oN,oN,oc (I r_3_11),oN,oN,oN,oc (I r_3_15),oc (I r_3_16),oN,oN,oN,oN,oN,oN,oc (I r_3_23),oN,oc (I r_3_25),oN,oN,oN,oN,oc (I r_3_30),oN,oN,oN,oc (I r_3_34),oc (I r_3_35),oN,oF] [(1,I a1),(2,I b2),(3,I c3),(4,.ra 1 0),(78,.bool (r_3_25 != r_3_35))] [(1,bSystem s0)] (ai (spec_l1Add_s _ _ hr_3_5) (ai bod_206 (ai (oi (I r_3_5)) (ai (spec_l1Mul_s _ _ hr_3_6) (ai bod_168 (ai (oi (I r_3_6)) (ai (spec_l1Mul_s _ _ hr_3_11) (ai bod_168 (ai (oi (I r_3_11)) (ai (spec_l1Mul_s _ _ hr_3_15) (ai bod_168 (ai (oi (I r_3_15)) (ai (spec_l1Add_s _ _ hr_3_16) (ai bod_206 (ai (oi (I r_3_16)) (ar 5 hb_3_0 (ai (spec_l1Add_s _ _ hr_3_23) (ai bod_206 (ai (oi (I r_3_23)) (ar 2 hb_3_0 (ai (spec_l1Mul_s _ _ hr_3_25) (ai bod_168 (ai (oi (I r_3_25)) (ar 5 hb_3_0 (ai (spec_l1Mul_s _ _ hr_3_30) (ai bod_168 (ai (oi (I r_3_30)) (ar 4 hb_3_0 (ai (spec_l1Mul_s _ _ hr_3_34) (ai bod_168 (ai (oi (I r_3_34)) (ai hb_3_0 (ai (spec_l1Add_s _ _ hr_3_35) (ai bod_206 (ai (oi (I r_3_35)) (ar 2 hb_3_0 trivial)))))))))))))))))))))))))))))))))))) ?_
  obtain rfl := os h
  exact Into.mk
 clear hj_5
 rcases is h with ⟨hb_6,h⟩ | ⟨hb_6,h⟩
 ·refine cT v_4 hb_6 ?_
  refine rs0 hc 1 [(8,.bool false)] [] ?_
  refine rt ?_
  obtain rfl := os h
  exact rq [true]
 refine cF v_4 hb_6 ?_
 refine sk ?_
 refine sN ?_
 obtain ⟨r_5_3,hr_5_3,h⟩ := bsome h
 refine rs hc none [oN,oN,oN,oc (.bool r_5_3),oN] [(1,I a1),(2,I b2),(3,I c3),(4,.ra 1 0),(83,.bool (!r_5_3))] [(1,bSystem s0)] (ai (spec_l1Le_s _ _ hr_5_3) (ai bod_149 (ai (oi (.bool r_5_3)) trivial))) ?_
 rcases is h with ⟨hb_7,h⟩ | ⟨hb_7,h⟩
 ·refine cF (!r_5_3) (nF hb_7) ?_
  refine sk ?_
  refine sN ?_
  refine sN ?_
  obtain ⟨v_8,hj_9,h⟩ := bsome h
  refine Wp.into (x := .normal) (mkS [(1,I a1),(2,I b2),(3,I c3),(4,.ra 1 0),(94,.bool v_8)] [(1,bSystem s0)]) ?_ ?_
  ·replace h := hj_9
   obtain ⟨r_7_3,hr_7_3,h⟩ := bsome h
   rcases is h with ⟨hb_7_0,h⟩ | ⟨hb_7_0,h⟩
   ·obtain ⟨r_7_8,hr_7_8,h⟩ := bsome h
    refine rg hc none [oN,oN,oN,oc (.bool r_7_3),oN,oN,oN,oN,oc (.bool r_7_8),oN,oT] [(1,I a1),(2,I b2),(3,I c3),(4,.ra 1 0),(94,.bool (!r_7_8))] [(1,bSystem s0)] (ai (spec_l1Le_s _ _ hr_7_3) (ai bod_149 (ai (oi (.bool r_7_3)) (ar 4 hb_7_0 (ai (spec_l1Le_s _ _ hr_7_8) (ai bod_149 (ai (oi (.bool r_7_8)) (ar 2 hb_7_0 trivial)))))))) ?_
    obtain rfl := os h
    exact Into.mk
   refine rg hc none [oN,oN,oN,oc (.bool r_7_3),oN,o_,o_,o_,o_,o_,oF] [(1,I a1),(2,I b2),(3,I c3),(4,.ra 1 0),(94,.bool false)] [(1,bSystem s0)] (ai (spec_l1Le_s _ _ hr_7_3) (ai bod_149 (ai (oi (.bool r_7_3)) (ar 5 (neT hb_7_0) (ai hb_7_0 trivial))))) ?_
   obtain rfl := os h
   exact Into.mk
  clear hj_9
  rcases is h with ⟨hb_10,h⟩ | ⟨hb_10,h⟩
  ·refine cT v_8 hb_10 ?_
   refine rs0 hc 1 [(8,.bool false)] [] ?_
   refine rt ?_
   obtain rfl := os h
   exact rq [true]
  refine cF v_8 hb_10 ?_
  refine sk ?_
  refine sN ?_
  obtain ⟨v_11,hj_12,h⟩ := bsome h
  refine Wp.into (x := .normal) (mkS [(8,.bool v_11)] []) ?_ ?_
  ·replace h := hj_12
   obtain ⟨r_9_4,hr_9_4,h⟩ := bsome h
   obtain ⟨r_9_8,hr_9_8,h⟩ := bsome h
   obtain ⟨r_9_9,hr_9_9,h⟩ := bsome h
   rcases is h with ⟨hb_9_0,h⟩ | ⟨hb_9_0,h⟩
   ·obtain ⟨r_9_15,hr_9_15,h⟩ := bsome h
    obtain ⟨r_9_19,hr_9_19,h⟩ := bsome h
    obtain ⟨r_9_20,hr_9_20,h⟩ := bsome h
    rcases is h with ⟨hb_9_1,h⟩ | ⟨hb_9_1,h⟩
    ·obtain ⟨r_9_27,hr_9_27,h⟩ := bsome h
     obtain ⟨r_9_31,hr_9_31,h⟩ := bsome h
     obtain ⟨r_9_32,hr_9_32,h⟩ := bsome h
     refine rg hc ah1_3 [oN,oN,oN,oN,oc (I r_9_4),oN,oN,oN,oc (I r_9_8),oc (.bool r_9_9),oN,oN,oN,oN,oN,oc (I r_9_15),oN,oN,oN,oc (I r_9_19),oc (.bool r_9_20),oT,oN,oN,oN,oN,oN,oc (I r_9_27),oN,oN,oN,oc (I r_9_31),oc (.bool r_9_32),oT,oN] [(8,.bool r_9_32)] [] (ai (spec_l1Add_s _ _ hr_9_4) (ai bod_206 (ai (oi (I r_9_4)) (ai (spec_l1Add_s _ _ hr_9_8) (ai bod_206 (ai (oi (I r_9_8)) (ai (spec_l1Le_s _ _ hr_9_9) (ai bod_149 (ai (oi (.bool r_9_9)) (ar 5 hb_9_0 (ai (spec_l1Mul_s _ _ hr_9_15) (ai bod_168 (ai (oi (I r_9_15)) (ar 4 hb_9_0 (ai (spec_l1Mul_s _ _ hr_9_19) (ai bod_168 (ai (oi (I r_9_19)) (ai hb_9_0 (ai (spec_l1Le_s _ _ hr_9_20) (ai bod_149 (ai (oi (.bool r_9_20)) (ai hb_9_0 (ar 5 hb_9_1 (ai (spec_l1Mul_s _ _ hr_9_27) (ai bod_168 (ai (oi (I r_9_27)) (ar 4 hb_9_1 (ai (spec_l1Mul_s _ _ hr_9_31) (ai bod_168 (ai (oi (I r_9_31)) (ai hb_9_1 (ai (spec_l1Le_s _ _ hr_9_32) (ai bod_149 (ai (oi (.bool r_9_32)) (ai hb_9_1 trivial))))))))))))))))))))))))))))))))))) ?_
     obtain rfl := os h
     exact Into.mk
    refine rg hc ah1_3 [oN,oN,oN,oN,oc (I r_9_4),oN,oN,oN,oc (I r_9_8),oc (.bool r_9_9),oN,oN,oN,oN,oN,oc (I r_9_15),oN,oN,oN,oc (I r_9_19),oc (.bool r_9_20),oT,oN,o_,o_,o_,o_,o_,o_,o_,o_,o_,o_,oF,oN] [(8,.bool false)] [] (ai (spec_l1Add_s _ _ hr_9_4) (ai bod_206 (ai (oi (I r_9_4)) (ai (spec_l1Add_s _ _ hr_9_8) (ai bod_206 (ai (oi (I r_9_8)) (ai (spec_l1Le_s _ _ hr_9_9) (ai bod_149 (ai (oi (.bool r_9_9)) (ar 5 hb_9_0 (ai (spec_l1Mul_s _ _ hr_9_15) (ai bod_168 (ai (oi (I r_9_15)) (ar 4 hb_9_0 (ai (spec_l1Mul_s _ _ hr_9_19) (ai bod_168 (ai (oi (I r_9_19)) (ai hb_9_0 (ai (spec_l1Le_s _ _ hr_9_20) (ai bod_149 (ai (oi (.bool r_9_20)) (ai hb_9_0 (ar 10 (neT hb_9_1) (ai hb_9_1 trivial)))))))))))))))))))))))) ?_
    obtain rfl := os h
    exact Into.mk
   refine rg hc ah1_3 [oN,oN,oN,oN,oc (I r_9_4),oN,oN,oN,oc (I r_9_8),oc (.bool r_9_9),oN,o_,o_,o_,o_,o_,o_,o_,o_,o_,o_,oF,oN,o_,o_,o_,o_,o_,o_,o_,o_,o_,o_,oF,oN] [(8,.bool false)] [] (ai (spec_l1Add_s _ _ hr_9_4) (ai bod_206 (ai (oi (I r_9_4)) (ai (spec_l1Add_s _ _ hr_9_8) (ai bod_206 (ai (oi (I r_9_8)) (ai (spec_l1Le_s _ _ hr_9_9) (ai bod_149 (ai (oi (.bool r_9_9)) (ar 10 (neT hb_9_0) (ai hb_9_0 (ar 10 (neT (rfl : false = false)) (ai (rfl : false = false) trivial))))))))))))) ?_
   obtain rfl := os h
   exact Into.mk
  clear hj_12
  refine rt ?_
  obtain rfl := os h
  exact rq [true]
 refine cT (!r_5_3) (nT hb_7) ?_
 refine rs0 hc 1 [(8,.bool true)] [] ?_
 refine rt ?_
 obtain rfl := os h
 exact rq [true]
def spec_IsSystem_F1 (c : Ctx) (s0 : GSystem) (a_22 : Int) (b_33 : Int) : (Unit) ⊕ (Bool) → Exit → AState → Prop
 | .inl _ => Into c (.exit 4) (mkS [(1,.ra 1 0),(3,I a_22),(4,I b_33)] [(1,bSystem s0)])
 | .inr r => RetE TIx Tryz.f139 [] (.bool r)
def spec_IsSystem_l0 (p : GSystem × Int × Int × Int) : Option ((Unit) ⊕ (Bool)) :=
 match p with
 | (s0,a_22,b_33,c_38) =>
  if (decide (c_38 < s0.fSize)) = true then
   (spec_l1Three (s0,a_22,b_33,c_38)) >>= fun r_16_4 =>
   if r_16_4 = true then
    spec_IsSystem_l0 (s0,a_22,b_33,(wr (c_38 + 1)))
   else
    some (.inr false)
  else
   some (.inl ())
 partial_fixpoint
def M_spec_IsSystem_l0 (p : GSystem × Int × Int × Int) (fl : (Unit) ⊕ (Bool)) : Prop :=
 match p with
 | (s0,a_22,b_33,c_38) => ∀ c : Ctx,c.nt = 42 → WpL Tryz.prog c (cl (cl (cr (cr (cl (cl (cr (cl (cl (cr (cr (cl (cl (cr (cl (cl (cr (cl (cr (cr B139)))))))))))))))))))) (spec_IsSystem_F1 c s0 a_22 b_33 fl) (mkS [(1,.ra 1 0),(3,I a_22),(4,I b_33),(5,I c_38)] [(1,bSystem s0)])
theorem spec_IsSystem_l0_s : ∀ p r,spec_IsSystem_l0 p = some r → M_spec_IsSystem_l0 p r := by
 refine spec_IsSystem_l0.partial_correctness M_spec_IsSystem_l0 ?_
 rintro spec_IsSystem_l0_f spec_IsSystem_l0_ih ⟨s0,a_22,b_33,c_38⟩ r h
 intro c hc
 refine WpL.step ?_
 refine sN ?_
 refine rs0 hc 4 [(1,.ra 1 0),(3,I a_22),(4,I b_33),(5,I c_38),(33,.bool (decide (c_38 < s0.fSize)))] [(1,bSystem s0)] ?_
 rcases is h with ⟨hb_39,h⟩ | ⟨hb_39,h⟩
 ·refine cT ((decide (c_38 < s0.fSize))) hb_39 ?_
  refine sk ?_
  refine sN ?_
  refine bk 5 ?_
  obtain ⟨r_16_4,hr_16_4,h⟩ := bsome h
  refine rs hc none [oN,oN,oN,oN,oc (.bool r_16_4),oN] [(1,.ra 1 0),(3,I a_22),(4,I b_33),(5,I c_38),(41,.bool (!r_16_4))] [(1,bSystem s0)] (ai (spec_l1Three_s _ _ hr_16_4) (ai bod_205 (ai (oi (.bool r_16_4)) trivial))) ?_
  rcases is h with ⟨hb_40,h⟩ | ⟨hb_40,h⟩
  ·refine cF (!r_16_4) (nF hb_40) ?_
   refine sk ?_
   refine rg0 hc 3 [(1,.ra 1 0),(3,I a_22),(4,I b_33),(5,I (wr (c_38 + 1)))] [(1,bSystem s0)] ?_
   refine loopQ_norm ?_
   exact (spec_IsSystem_l0_ih _ _ h c hc)
  refine cT (!r_16_4) (nT hb_40) ?_
  refine rs0 hc 1 [(2,.bool false)] [] ?_
  refine rt ?_
  obtain rfl := os h
  exact re [true]
 refine cF ((decide (c_38 < s0.fSize))) hb_39 ?_
 refine xt 4 ?_
 refine seqQ_exit ?_
 refine loopQ_exit ?_
 obtain rfl := os h
 exact iv []
def spec_IsSystem_F2 (c : Ctx) (s0 : GSystem) (a_22 : Int) : (Unit) ⊕ (Bool) → Exit → AState → Prop
 | .inl _ => Into c (.exit 2) (mkS [(1,.ra 1 0),(3,I a_22)] [(1,bSystem s0)])
 | .inr r => RetE TIx Tryz.f139 [] (.bool r)
def spec_IsSystem_l1 (p : GSystem × Int × Int) : Option ((Unit) ⊕ (Bool)) :=
 match p with
 | (s0,a_22,b_33) =>
  if (decide (b_33 < s0.fSize)) = true then
   (spec_l1Two (s0,a_22,b_33)) >>= fun r_11_3 =>
   if r_11_3 = true then
    (spec_IsSystem_l0 (s0,a_22,b_33,0)) >>= fun fl => match fl with
    | .inl () =>
     spec_IsSystem_l1 (s0,a_22,(wr (b_33 + 1)))
    | .inr r =>
     some (.inr r)
   else
    some (.inr false)
  else
   some (.inl ())
 partial_fixpoint
def M_spec_IsSystem_l1 (p : GSystem × Int × Int) (fl : (Unit) ⊕ (Bool)) : Prop :=
 match p with
 | (s0,a_22,b_33) => ∀ c : Ctx,c.nt = 42 → WpL Tryz.prog c (cl (cl (cr (cr (cl (cl (cr (cl (cl (cr (cl (cr (cr B139))))))))))))) (spec_IsSystem_F2 c s0 a_22 fl) (mkS [(1,.ra 1 0),(3,I a_22),(4,I b_33)] [(1,bSystem s0)])
theorem spec_IsSystem_l1_s : ∀ p r,spec_IsSystem_l1 p = some r → M_spec_IsSystem_l1 p r := by
 refine spec_IsSystem_l1.partial_correctness M_spec_IsSystem_l1 ?_
 rintro spec_IsSystem_l1_f spec_IsSystem_l1_ih ⟨s0,a_22,b_33⟩ r h
 intro c hc
 refine WpL.step ?_
 refine sN ?_
 refine rs0 hc 4 [(1,.ra 1 0),(3,I a_22),(4,I b_33),(22,.bool (decide (b_33 < s0.fSize)))] [(1,bSystem s0)] ?_
 rcases is h with ⟨hb_34,h⟩ | ⟨hb_34,h⟩
 ·refine cT ((decide (b_33 < s0.fSize))) hb_34 ?_
  refine sk ?_
  refine sN ?_
  refine bk 3 ?_
  refine sN ?_
  obtain ⟨r_11_3,hr_11_3,h⟩ := bsome h
  refine rs hc none [oN,oN,oN,oc (.bool r_11_3),oN] [(1,.ra 1 0),(3,I a_22),(4,I b_33),(29,.bool (!r_11_3))] [(1,bSystem s0)] (ai (spec_l1Two_s _ _ hr_11_3) (ai bod_204 (ai (oi (.bool r_11_3)) trivial))) ?_
  rcases is h with ⟨hb_35,h⟩ | ⟨hb_35,h⟩
  ·refine cF (!r_11_3) (nF hb_35) ?_
   refine sk ?_
   refine rs0 hc 1 [(1,.ra 1 0),(3,I a_22),(4,I b_33),(5,I 0)] [(1,bSystem s0)] ?_
   refine bk 4 ?_
   obtain ⟨fl,hl_41,h⟩ := bsome h
   have hL := spec_IsSystem_l0_s _ _ hl_41 c hc
   refine lp ?_
   rcases fl with ⟨⟩ | r
   ·refine WpL.into (e := (.exit 4)) (mkS [(1,.ra 1 0),(3,I a_22),(4,I b_33)] [(1,bSystem s0)]) hL ?_
    refine blockQ_hit ?_
    refine rg0 hc 3 [(1,.ra 1 0),(3,I a_22),(4,I (wr (b_33 + 1)))] [(1,bSystem s0)] ?_
    refine loopQ_norm ?_
    exact (spec_IsSystem_l1_ih _ _ h c hc)
   refine WpL.mono hL ?_
   rintro _ _ ⟨rfl,hfin⟩
   obtain rfl := os h
   exact ⟨rfl,hfin⟩
  refine cT (!r_11_3) (nT hb_35) ?_
  refine rs0 hc 1 [(2,.bool false)] [] ?_
  refine rt ?_
  obtain rfl := os h
  exact re [true]
 refine cF ((decide (b_33 < s0.fSize))) hb_34 ?_
 refine xt 2 ?_
 refine seqQ_exit ?_
 refine loopQ_exit ?_
 obtain rfl := os h
 exact iv []
def spec_IsSystem_F3 (c : Ctx) : (Unit) ⊕ (Bool) → Exit → AState → Prop
 | .inl _ => Into c (.exit 0) (mkS [] [])
 | .inr r => RetE TIx Tryz.f139 [] (.bool r)
end Go.Am
