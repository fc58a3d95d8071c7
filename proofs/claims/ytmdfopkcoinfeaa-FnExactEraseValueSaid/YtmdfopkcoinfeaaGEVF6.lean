/- Functions of the program as pure functions, and that it computes them. Printed by a program of mine (gen.py). -/
import Derived.Test.YtmdfopkcoinfeaaGEVF5
set_option linter.unusedVariables false
set_option linter.unusedSimpArgs false
set_option maxRecDepth 100000
namespace Go.Am
open Go Go.Proofs
def ah6_0 : Option (List (List Nat)) := rx [[0], [0], [0], [0], [0, 1, 2, 3], [0], [6], [0], [0], [0], [0], [0], [7, 9, 10, 11], [13], [14], [15], [16], [16], [16], [16], [16, 17, 18, 19], [16], [22], [16], [16], [16], [16], [16], [23, 25, 26, 27], [29], [30], [31]]
def ah6_1 : Option (List (List Nat)) := rx [[0], [0], [0], [0], [0], [0, 2, 3, 4], [6], [0], [0], [0], [0], [7, 8, 9, 10], [0], [0], [0], [7, 8, 9, 10, 11, 12, 13, 14], [16], [17], [18], [19], [19], [19], [19], [19, 20, 21, 22], [19], [25], [19], [19], [19], [19], [26, 27, 28, 29], [19], [19], [19], [26, 27, 28, 29, 30, 31, 32, 33], [35], [36], [37]]
def ah6_2 : Option (List (List Nat)) := rx [[0], [0], [0], [3], [4], [5], [6], [6], [6], [6], [6, 7, 8, 9], [6], [6], [6], [6, 7, 8, 9, 10, 11, 12, 13], [15], [16], [17], [17], [17], [17], [17, 18, 19, 20], [17], [17], [17], [17, 18, 19, 20, 21, 22, 23, 24], [26], [27], [28], [29], [29], [29], [29], [29, 30, 31, 32], [29], [29], [29], [29, 30, 31, 32, 33, 34, 35, 36], [38], [39], [40], [41]]
def ah6_3 : Option (List (List Nat)) := rx [[0], [0], [0, 1], [0], [0, 1, 2, 3], [0, 1, 2, 3, 4], [6], [7], [8], [9], [9], [9, 10], [9], [9, 10, 11, 12], [9, 10, 11, 12, 13], [15], [16], [17]]
def ah6_4 : Option (List (List Nat)) := rh [0, 0, 0, 3, 0, 0, 0, 7, 8, 9, 10, 10, 12, 13, 14, 14, 14, 17, 18, 19, 20, 20, 20, 23, 24, 25, 26, 27, 27, 27, 30, 31, 32]
def impl_SystemlawsOf (p : GSystem × Int × Int × Int) : Option (Bool) :=
 match p with
 | (s0, a1, b2, c3) =>
  (
   (impl_Systemplus (s0, a1, b2)) >>= fun r_1_4 =>
   (impl_Systemplus (s0, r_1_4, c3)) >>= fun r_1_6 =>
   (impl_Systemplus (s0, b2, c3)) >>= fun r_1_12 =>
   (impl_Systemplus (s0, a1, r_1_12)) >>= fun r_1_13 =>
   if (r_1_6 != r_1_13) = true then
    some (true)
   else
    (impl_Systemtimes (s0, a1, b2)) >>= fun r_1_20 =>
    (impl_Systemtimes (s0, r_1_20, c3)) >>= fun r_1_22 =>
    (impl_Systemtimes (s0, b2, c3)) >>= fun r_1_28 =>
    (impl_Systemtimes (s0, a1, r_1_28)) >>= fun r_1_29 =>
    some ((r_1_22 != r_1_29))
  ) >>= fun v_1 =>
  if v_1 = true then
   some false
  else
   (
    (impl_Systemplus (s0, b2, c3)) >>= fun r_3_5 =>
    (impl_Systemtimes (s0, a1, r_3_5)) >>= fun r_3_6 =>
    (impl_Systemtimes (s0, a1, b2)) >>= fun r_3_11 =>
    (impl_Systemtimes (s0, a1, c3)) >>= fun r_3_15 =>
    (impl_Systemplus (s0, r_3_11, r_3_15)) >>= fun r_3_16 =>
    if (r_3_6 != r_3_16) = true then
     some (true)
    else
     (impl_Systemplus (s0, a1, b2)) >>= fun r_3_23 =>
     (impl_Systemtimes (s0, r_3_23, c3)) >>= fun r_3_25 =>
     (impl_Systemtimes (s0, a1, c3)) >>= fun r_3_30 =>
     (impl_Systemtimes (s0, b2, c3)) >>= fun r_3_34 =>
     (impl_Systemplus (s0, r_3_30, r_3_34)) >>= fun r_3_35 =>
     some ((r_3_25 != r_3_35))
   ) >>= fun v_4 =>
   if v_4 = true then
    some false
   else
    (
     (impl_Systembelow (s0, a1, b2)) >>= fun r_5_3 =>
     if r_5_3 = true then
      (impl_Systembelow (s0, b2, c3)) >>= fun r_5_8 =>
      if r_5_8 = true then
       (impl_Systembelow (s0, a1, c3)) >>= fun r_5_14 =>
       some ((!r_5_14))
      else
       some (false)
     else
      some (false)
    ) >>= fun v_7 =>
    if v_7 = true then
     some false
    else
     (
      (impl_Systembelow (s0, a1, b2)) >>= fun r_7_3 =>
      if r_7_3 = true then
       (impl_Systemplus (s0, a1, c3)) >>= fun r_7_10 =>
       (impl_Systemplus (s0, b2, c3)) >>= fun r_7_14 =>
       (impl_Systembelow (s0, r_7_10, r_7_14)) >>= fun r_7_15 =>
       if r_7_15 = true then
        (impl_Systemtimes (s0, a1, c3)) >>= fun r_7_21 =>
        (impl_Systemtimes (s0, b2, c3)) >>= fun r_7_25 =>
        (impl_Systembelow (s0, r_7_21, r_7_25)) >>= fun r_7_26 =>
        if r_7_26 = true then
         (impl_Systemtimes (s0, c3, a1)) >>= fun r_7_33 =>
         (impl_Systemtimes (s0, c3, b2)) >>= fun r_7_37 =>
         (impl_Systembelow (s0, r_7_33, r_7_37)) >>= fun r_7_38 =>
         some (r_7_38)
        else
         some (false)
       else
        some (false)
      else
       some (true)
     ) >>= fun v_10 =>
     some v_10
def M_impl_SystemlawsOf (p : GSystem × Int × Int × Int) (r : Bool) : Prop :=
 match p with
 | (s0, a1, b2, c3) => FnSound Try.prog 122 [aSystem s0, I a1, I b2, I c3] (.bool r) []
theorem impl_SystemlawsOf_s : ∀ p r, impl_SystemlawsOf p = some r → M_impl_SystemlawsOf p r := by
 rintro ⟨s0, a1, b2, c3⟩ r h
 unfold impl_SystemlawsOf at h
 show FnSound Try.prog 122 [aSystem s0, I a1, I b2, I c3] (.bool r) []
 refine FnSound.body0 tiok (fn := Try.f122) (code := B122) (by kernel_rfl) (by kernel_rfl) (by kernel_rfl) (by kernel_rfl) (nt := 137) (by kernel_rfl) (by kernel_rfl) (T := [(0, aSystem s0), (1, I a1), (2, I b2), (3, I c3)]) (O := []) (by kernel_rfl) (by kernel_rfl) (fun c hc => ?_)
 refine sN ?_
 refine rg hc none [some (.new 1), oN] [(1, I a1), (2, I b2), (3, I c3), (4, .ra 1 0)] [(1, bSystem s0)] trivial ?_
 refine seqQ_norm ?_
 refine sN ?_
 refine sN ?_
 obtain ⟨v_1, hj_2, h⟩ := bsome h
 refine Wp.into (x := .normal) (mkS [(1, I a1), (2, I b2), (3, I c3), (4, .ra 1 0), (40, .bool v_1)] [(1, bSystem s0)]) ?_ ?_
 ·replace h := hj_2
  obtain ⟨r_1_4, hr_1_4, h⟩ := bsome h
  obtain ⟨r_1_6, hr_1_6, h⟩ := bsome h
  obtain ⟨r_1_12, hr_1_12, h⟩ := bsome h
  obtain ⟨r_1_13, hr_1_13, h⟩ := bsome h
  rcases itesome h with ⟨hb_1_0, h⟩ | ⟨hb_1_0, h⟩
  ·refine rg hc ah6_0 [oN, oN, oN, oN, oc (I r_1_4), oN, oc (I r_1_6), oN, oN, oN, oN, oN, oc (I r_1_12), oc (I r_1_13), oN, oN, o_, o_, o_, o_, o_, o_, o_, o_, o_, o_, o_, o_, o_, o_, o_, oT] [(1, I a1), (2, I b2), (3, I c3), (4, .ra 1 0), (40, .bool true)] [(1, bSystem s0)] (ai (impl_Systemplus_s _ _ hr_1_4) (ai bod_118 (ai (oi (I r_1_4)) (ai (impl_Systemplus_s _ _ hr_1_6) (ai bod_118 (ai (oi (I r_1_6)) (ai (impl_Systemplus_s _ _ hr_1_12) (ai bod_118 (ai (oi (I r_1_12)) (ai (impl_Systemplus_s _ _ hr_1_13) (ai bod_118 (ai (oi (I r_1_13)) (ar 15 (neF hb_1_0) (ai hb_1_0 trivial)))))))))))))) ?_
   obtain rfl := Option.some.inj h
   exact Into.mk
  ·obtain ⟨r_1_20, hr_1_20, h⟩ := bsome h
   obtain ⟨r_1_22, hr_1_22, h⟩ := bsome h
   obtain ⟨r_1_28, hr_1_28, h⟩ := bsome h
   obtain ⟨r_1_29, hr_1_29, h⟩ := bsome h
   refine rg hc ah6_0 [oN, oN, oN, oN, oc (I r_1_4), oN, oc (I r_1_6), oN, oN, oN, oN, oN, oc (I r_1_12), oc (I r_1_13), oN, oN, oN, oN, oN, oN, oc (I r_1_20), oN, oc (I r_1_22), oN, oN, oN, oN, oN, oc (I r_1_28), oc (I r_1_29), oN, oF] [(1, I a1), (2, I b2), (3, I c3), (4, .ra 1 0), (40, .bool (r_1_22 != r_1_29))] [(1, bSystem s0)] (ai (impl_Systemplus_s _ _ hr_1_4) (ai bod_118 (ai (oi (I r_1_4)) (ai (impl_Systemplus_s _ _ hr_1_6) (ai bod_118 (ai (oi (I r_1_6)) (ai (impl_Systemplus_s _ _ hr_1_12) (ai bod_118 (ai (oi (I r_1_12)) (ai (impl_Systemplus_s _ _ hr_1_13) (ai bod_118 (ai (oi (I r_1_13)) (ar 5 hb_1_0 (ai (impl_Systemtimes_s _ _ hr_1_20) (ai bod_119 (ai (oi (I r_1_20)) (ar 2 hb_1_0 (ai (impl_Systemtimes_s _ _ hr_1_22) (ai bod_119 (ai (oi (I r_1_22)) (ar 6 hb_1_0 (ai (impl_Systemtimes_s _ _ hr_1_28) (ai bod_119 (ai (oi (I r_1_28)) (ai hb_1_0 (ai (impl_Systemtimes_s _ _ hr_1_29) (ai bod_119 (ai (oi (I r_1_29)) (ar 2 hb_1_0 trivial))))))))))))))))))))))))))))) ?_
   obtain rfl := Option.some.inj h
   exact Into.mk
 ·clear hj_2
  refine seqQ_norm ?_
  rcases itesome h with ⟨hb_3, h⟩ | ⟨hb_3, h⟩
  ·refine cT v_1 hb_3 ?_
   refine sN ?_
   refine rg0 hc 1 [(8, .bool false)] [] ?_
   refine seqQ_norm ?_
   refine Wp.retN (by kernel_rfl) ?_
   refine seqQ_ret ?_
   obtain rfl := Option.some.inj h
   exact RetQ.ret (fl := [true]) (by kernel_rfl)
  ·refine cF v_1 hb_3 ?_
   refine Wp.skipN (by kernel_rfl) ?_
   refine seqQ_norm ?_
   refine sN ?_
   refine sN ?_
   obtain ⟨v_4, hj_5, h⟩ := bsome h
   refine Wp.into (x := .normal) (mkS [(1, I a1), (2, I b2), (3, I c3), (4, .ra 1 0), (78, .bool v_4)] [(1, bSystem s0)]) ?_ ?_
   ·replace h := hj_5
    obtain ⟨r_3_5, hr_3_5, h⟩ := bsome h
    obtain ⟨r_3_6, hr_3_6, h⟩ := bsome h
    obtain ⟨r_3_11, hr_3_11, h⟩ := bsome h
    obtain ⟨r_3_15, hr_3_15, h⟩ := bsome h
    obtain ⟨r_3_16, hr_3_16, h⟩ := bsome h
    rcases itesome h with ⟨hb_3_0, h⟩ | ⟨hb_3_0, h⟩
    ·refine rg hc ah6_1 [oN, oN, oN, oN, oN, oc (I r_3_5), oc (I r_3_6), oN, oN, oN, oN, oc (I r_3_11), oN, oN, oN, oc (I r_3_15), oc (I r_3_16), oN, oN, o_, o_, o_, o_, o_, o_, o_, o_, o_, o_, o_, o_, o_, o_, o_, o_, o_, o_, oT] [(1, I a1), (2, I b2), (3, I c3), (4, .ra 1 0), (78, .bool true)] [(1, bSystem s0)] (ai (impl_Systemplus_s _ _ hr_3_5) (ai bod_118 (ai (oi (I r_3_5)) (ai (impl_Systemtimes_s _ _ hr_3_6) (ai bod_119 (ai (oi (I r_3_6)) (ai (impl_Systemtimes_s _ _ hr_3_11) (ai bod_119 (ai (oi (I r_3_11)) (ai (impl_Systemtimes_s _ _ hr_3_15) (ai bod_119 (ai (oi (I r_3_15)) (ai (impl_Systemplus_s _ _ hr_3_16) (ai bod_118 (ai (oi (I r_3_16)) (ar 18 (neF hb_3_0) (ai hb_3_0 trivial))))))))))))))))) ?_
     obtain rfl := Option.some.inj h
     exact Into.mk
    ·obtain ⟨r_3_23, hr_3_23, h⟩ := bsome h
     obtain ⟨r_3_25, hr_3_25, h⟩ := bsome h
     obtain ⟨r_3_30, hr_3_30, h⟩ := bsome h
     obtain ⟨r_3_34, hr_3_34, h⟩ := bsome h
     obtain ⟨r_3_35, hr_3_35, h⟩ := bsome h
     refine rg hc ah6_1 [oN, oN, oN, oN, oN, oc (I r_3_5), oc (I r_3_6), oN, oN, oN, oN, oc (I r_3_11), oN, oN, oN, oc (I r_3_15), oc (I r_3_16), oN, oN, oN, oN, oN, oN, oc (I r_3_23), oN, oc (I r_3_25), oN, oN, oN, oN, oc (I r_3_30), oN, oN, oN, oc (I r_3_34), oc (I r_3_35), oN, oF] [(1, I a1), (2, I b2), (3, I c3), (4, .ra 1 0), (78, .bool (r_3_25 != r_3_35))] [(1, bSystem s0)] (ai (impl_Systemplus_s _ _ hr_3_5) (ai bod_118 (ai (oi (I r_3_5)) (ai (impl_Systemtimes_s _ _ hr_3_6) (ai bod_119 (ai (oi (I r_3_6)) (ai (impl_Systemtimes_s _ _ hr_3_11) (ai bod_119 (ai (oi (I r_3_11)) (ai (impl_Systemtimes_s _ _ hr_3_15) (ai bod_119 (ai (oi (I r_3_15)) (ai (impl_Systemplus_s _ _ hr_3_16) (ai bod_118 (ai (oi (I r_3_16)) (ar 5 hb_3_0 (ai (impl_Systemplus_s _ _ hr_3_23) (ai bod_118 (ai (oi (I r_3_23)) (ar 2 hb_3_0 (ai (impl_Systemtimes_s _ _ hr_3_25) (ai bod_119 (ai (oi (I r_3_25)) (ar 5 hb_3_0 (ai (impl_Systemtimes_s _ _ hr_3_30) (ai bod_119 (ai (oi (I r_3_30)) (ar 4 hb_3_0 (ai (impl_Systemtimes_s _ _ hr_3_34) (ai bod_119 (ai (oi (I r_3_34)) (ai hb_3_0 (ai (impl_Systemplus_s _ _ hr_3_35) (ai bod_118 (ai (oi (I r_3_35)) (ar 2 hb_3_0 trivial)))))))))))))))))))))))))))))))))))) ?_
     obtain rfl := Option.some.inj h
     exact Into.mk
   ·clear hj_5
    refine seqQ_norm ?_
    rcases itesome h with ⟨hb_6, h⟩ | ⟨hb_6, h⟩
    ·refine cT v_4 hb_6 ?_
     refine sN ?_
     refine rg0 hc 1 [(8, .bool false)] [] ?_
     refine seqQ_norm ?_
     refine Wp.retN (by kernel_rfl) ?_
     refine seqQ_ret ?_
     obtain rfl := Option.some.inj h
     exact RetQ.ret (fl := [true]) (by kernel_rfl)
    ·refine cF v_4 hb_6 ?_
     refine Wp.skipN (by kernel_rfl) ?_
     refine seqQ_norm ?_
     refine sN ?_
     refine sN ?_
     obtain ⟨v_7, hj_8, h⟩ := bsome h
     refine Wp.into (x := .normal) (mkS [(1, I a1), (2, I b2), (3, I c3), (4, .ra 1 0), (95, .bool v_7)] [(1, bSystem s0)]) ?_ ?_
     ·replace h := hj_8
      obtain ⟨r_5_3, hr_5_3, h⟩ := bsome h
      rcases itesome h with ⟨hb_5_0, h⟩ | ⟨hb_5_0, h⟩
      ·obtain ⟨r_5_8, hr_5_8, h⟩ := bsome h
       rcases itesome h with ⟨hb_5_1, h⟩ | ⟨hb_5_1, h⟩
       ·obtain ⟨r_5_14, hr_5_14, h⟩ := bsome h
        refine rg hc none [oN, oN, oN, oc (.bool r_5_3), oN, oN, oN, oN, oc (.bool r_5_8), oT, oN, oN, oN, oN, oc (.bool r_5_14), oN, oT] [(1, I a1), (2, I b2), (3, I c3), (4, .ra 1 0), (95, .bool (!r_5_14))] [(1, bSystem s0)] (ai (impl_Systembelow_s _ _ hr_5_3) (ai bod_120 (ai (oi (.bool r_5_3)) (ar 4 hb_5_0 (ai (impl_Systembelow_s _ _ hr_5_8) (ai bod_120 (ai (oi (.bool r_5_8)) (ai hb_5_0 (ar 4 hb_5_1 (ai (impl_Systembelow_s _ _ hr_5_14) (ai bod_120 (ai (oi (.bool r_5_14)) (ar 2 hb_5_1 trivial))))))))))))) ?_
        obtain rfl := Option.some.inj h
        exact Into.mk
       ·refine rg hc none [oN, oN, oN, oc (.bool r_5_3), oN, oN, oN, oN, oc (.bool r_5_8), oT, oN, o_, o_, o_, o_, o_, oF] [(1, I a1), (2, I b2), (3, I c3), (4, .ra 1 0), (95, .bool false)] [(1, bSystem s0)] (ai (impl_Systembelow_s _ _ hr_5_3) (ai bod_120 (ai (oi (.bool r_5_3)) (ar 4 hb_5_0 (ai (impl_Systembelow_s _ _ hr_5_8) (ai bod_120 (ai (oi (.bool r_5_8)) (ai hb_5_0 (ar 5 (neT hb_5_1) (ai hb_5_1 trivial)))))))))) ?_
        obtain rfl := Option.some.inj h
        exact Into.mk
      ·refine rg hc none [oN, oN, oN, oc (.bool r_5_3), oN, o_, o_, o_, o_, oF, oN, o_, o_, o_, o_, o_, oF] [(1, I a1), (2, I b2), (3, I c3), (4, .ra 1 0), (95, .bool false)] [(1, bSystem s0)] (ai (impl_Systembelow_s _ _ hr_5_3) (ai bod_120 (ai (oi (.bool r_5_3)) (ar 4 (neT hb_5_0) (ai hb_5_0 (ar 5 (neT (rfl : false = false)) (ai (rfl : false = false) trivial))))))) ?_
       obtain rfl := Option.some.inj h
       exact Into.mk
     ·clear hj_8
      refine seqQ_norm ?_
      rcases itesome h with ⟨hb_9, h⟩ | ⟨hb_9, h⟩
      ·refine cT v_7 hb_9 ?_
       refine sN ?_
       refine rg0 hc 1 [(8, .bool false)] [] ?_
       refine seqQ_norm ?_
       refine Wp.retN (by kernel_rfl) ?_
       refine seqQ_ret ?_
       obtain rfl := Option.some.inj h
       exact RetQ.ret (fl := [true]) (by kernel_rfl)
      ·refine cF v_7 hb_9 ?_
       refine Wp.skipN (by kernel_rfl) ?_
       refine seqQ_norm ?_
       refine sN ?_
       obtain ⟨v_10, hj_11, h⟩ := bsome h
       refine Wp.into (x := .normal) (mkS [(8, .bool v_10)] []) ?_ ?_
       ·replace h := hj_11
        obtain ⟨r_7_3, hr_7_3, h⟩ := bsome h
        rcases itesome h with ⟨hb_7_0, h⟩ | ⟨hb_7_0, h⟩
        ·obtain ⟨r_7_10, hr_7_10, h⟩ := bsome h
         obtain ⟨r_7_14, hr_7_14, h⟩ := bsome h
         obtain ⟨r_7_15, hr_7_15, h⟩ := bsome h
         rcases itesome h with ⟨hb_7_1, h⟩ | ⟨hb_7_1, h⟩
         ·obtain ⟨r_7_21, hr_7_21, h⟩ := bsome h
          obtain ⟨r_7_25, hr_7_25, h⟩ := bsome h
          obtain ⟨r_7_26, hr_7_26, h⟩ := bsome h
          rcases itesome h with ⟨hb_7_2, h⟩ | ⟨hb_7_2, h⟩
          ·obtain ⟨r_7_33, hr_7_33, h⟩ := bsome h
           obtain ⟨r_7_37, hr_7_37, h⟩ := bsome h
           obtain ⟨r_7_38, hr_7_38, h⟩ := bsome h
           refine rg hc ah6_2 [oN, oN, oN, oc (.bool r_7_3), oN, oN, oN, oN, oN, oN, oc (I r_7_10), oN, oN, oN, oc (I r_7_14), oc (.bool r_7_15), oN, oN, oN, oN, oN, oc (I r_7_21), oN, oN, oN, oc (I r_7_25), oc (.bool r_7_26), oT, oN, oN, oN, oN, oN, oc (I r_7_33), oN, oN, oN, oc (I r_7_37), oc (.bool r_7_38), oT, oF, oN] [(8, .bool r_7_38)] [] (ai (impl_Systembelow_s _ _ hr_7_3) (ai bod_120 (ai (oi (.bool r_7_3)) (ar 5 (nF hb_7_0) (ai (impl_Systemplus_s _ _ hr_7_10) (ai bod_118 (ai (oi (I r_7_10)) (ar 4 (nF hb_7_0) (ai (impl_Systemplus_s _ _ hr_7_14) (ai bod_118 (ai (oi (I r_7_14)) (ai (nF hb_7_0) (ai (impl_Systembelow_s _ _ hr_7_15) (ai bod_120 (ai (oi (.bool r_7_15)) (ai (nF hb_7_0) (ar 5 hb_7_1 (ai (impl_Systemtimes_s _ _ hr_7_21) (ai bod_119 (ai (oi (I r_7_21)) (ar 4 hb_7_1 (ai (impl_Systemtimes_s _ _ hr_7_25) (ai bod_119 (ai (oi (I r_7_25)) (ai hb_7_1 (ai (impl_Systembelow_s _ _ hr_7_26) (ai bod_120 (ai (oi (.bool r_7_26)) (ai (nF hb_7_0) (ai hb_7_1 (ai (nF hb_7_0) (ar 5 hb_7_2 (ai (impl_Systemtimes_s _ _ hr_7_33) (ai bod_119 (ai (oi (I r_7_33)) (ar 4 hb_7_2 (ai (impl_Systemtimes_s _ _ hr_7_37) (ai bod_119 (ai (oi (I r_7_37)) (ai hb_7_2 (ai (impl_Systembelow_s _ _ hr_7_38) (ai bod_120 (ai (oi (.bool r_7_38)) (ai (nF hb_7_0) (ai hb_7_2 (ai (nF hb_7_0) trivial)))))))))))))))))))))))))))))))))))))))))))))) ?_
           obtain rfl := Option.some.inj h
           exact Into.mk
          ·refine rg hc ah6_2 [oN, oN, oN, oc (.bool r_7_3), oN, oN, oN, oN, oN, oN, oc (I r_7_10), oN, oN, oN, oc (I r_7_14), oc (.bool r_7_15), oN, oN, oN, oN, oN, oc (I r_7_21), oN, oN, oN, oc (I r_7_25), oc (.bool r_7_26), oT, oN, o_, o_, o_, o_, o_, o_, o_, o_, o_, o_, oF, oF, oN] [(8, .bool false)] [] (ai (impl_Systembelow_s _ _ hr_7_3) (ai bod_120 (ai (oi (.bool r_7_3)) (ar 5 (nF hb_7_0) (ai (impl_Systemplus_s _ _ hr_7_10) (ai bod_118 (ai (oi (I r_7_10)) (ar 4 (nF hb_7_0) (ai (impl_Systemplus_s _ _ hr_7_14) (ai bod_118 (ai (oi (I r_7_14)) (ai (nF hb_7_0) (ai (impl_Systembelow_s _ _ hr_7_15) (ai bod_120 (ai (oi (.bool r_7_15)) (ai (nF hb_7_0) (ar 5 hb_7_1 (ai (impl_Systemtimes_s _ _ hr_7_21) (ai bod_119 (ai (oi (I r_7_21)) (ar 4 hb_7_1 (ai (impl_Systemtimes_s _ _ hr_7_25) (ai bod_119 (ai (oi (I r_7_25)) (ai hb_7_1 (ai (impl_Systembelow_s _ _ hr_7_26) (ai bod_120 (ai (oi (.bool r_7_26)) (ai (nF hb_7_0) (ai hb_7_1 (ai (nF hb_7_0) (ar 10 (neT hb_7_2) (ai (nF hb_7_0) (ai hb_7_2 (ai (nF hb_7_0) trivial))))))))))))))))))))))))))))))))))) ?_
           obtain rfl := Option.some.inj h
           exact Into.mk
         ·refine rg hc ah6_2 [oN, oN, oN, oc (.bool r_7_3), oN, oN, oN, oN, oN, oN, oc (I r_7_10), oN, oN, oN, oc (I r_7_14), oc (.bool r_7_15), oN, o_, o_, o_, o_, o_, o_, o_, o_, o_, o_, oF, oN, o_, o_, o_, o_, o_, o_, o_, o_, o_, o_, oF, oF, oN] [(8, .bool false)] [] (ai (impl_Systembelow_s _ _ hr_7_3) (ai bod_120 (ai (oi (.bool r_7_3)) (ar 5 (nF hb_7_0) (ai (impl_Systemplus_s _ _ hr_7_10) (ai bod_118 (ai (oi (I r_7_10)) (ar 4 (nF hb_7_0) (ai (impl_Systemplus_s _ _ hr_7_14) (ai bod_118 (ai (oi (I r_7_14)) (ai (nF hb_7_0) (ai (impl_Systembelow_s _ _ hr_7_15) (ai bod_120 (ai (oi (.bool r_7_15)) (ai (nF hb_7_0) (ar 10 (neT hb_7_1) (ai (nF hb_7_0) (ai hb_7_1 (ai (nF hb_7_0) (ar 10 (neT (rfl : false = false)) (ai (nF hb_7_0) (ai (rfl : false = false) (ai (nF hb_7_0) trivial)))))))))))))))))))))))) ?_
          obtain rfl := Option.some.inj h
          exact Into.mk
        ·refine rg hc ah6_2 [oN, oN, oN, oc (.bool r_7_3), oN, oN, o_, o_, o_, o_, o_, o_, o_, o_, o_, o_, o_, o_, o_, o_, o_, o_, o_, o_, o_, o_, o_, o_, o_, o_, o_, o_, o_, o_, o_, o_, o_, o_, o_, o_, oT, oN] [(8, .bool true)] [] (ai (impl_Systembelow_s _ _ hr_7_3) (ai bod_120 (ai (oi (.bool r_7_3)) (ar 14 (neF (nT hb_7_0)) (ai (nT hb_7_0) trivial))))) ?_
         obtain rfl := Option.some.inj h
         exact Into.mk
       ·clear hj_11
        refine seqQ_norm ?_
        refine Wp.retN (by kernel_rfl) ?_
        obtain rfl := Option.some.inj h
        exact RetQ.ret (fl := [true]) (by kernel_rfl)
def impl_IsSystem_F1 (c : Ctx) (s0 : GSystem) : (Unit) ⊕ (Bool) → Exit → AState → Prop
 | .inl _ => Into c (.exit 0) (mkS [(1, .ra 1 0), (3, I s0.fSize)] [(1, bSystem s0)])
 | .inr r => RetE TIx Try.f83 [] (.bool r)
def impl_IsSystem_l0 (p : GSystem × Int) : Option ((Unit) ⊕ (Bool)) :=
 match p with
 | (s0, w_8) =>
  if (decide (w_8 < (s0.fPlus.length : Int))) = true then
   (
    (idx s0.fPlus w_8) >>= fun e_7_4 =>
    (impl_Systemhas (s0, e_7_4)) >>= fun r_7_6 =>
    if r_7_6 = true then
     (idx s0.fTimes w_8) >>= fun e_7_13 =>
     (impl_Systemhas (s0, e_7_13)) >>= fun r_7_15 =>
     some ((!r_7_15))
    else
     some (true)
   ) >>= fun v_10 =>
   if v_10 = true then
    some (.inr false)
   else
    impl_IsSystem_l0 (s0, (wr (w_8 + 1)))
  else
   some (.inl ())
 partial_fixpoint
def M_impl_IsSystem_l0 (p : GSystem × Int) (fl : (Unit) ⊕ (Bool)) : Prop :=
 match p with
 | (s0, w_8) => ∀ c : Ctx, c.nt = 157 → WpL Try.prog c (cl (cl (cr (cl (cr (cr (cr B83))))))) (impl_IsSystem_F1 c s0 fl) (mkS [(1, .ra 1 0), (3, I s0.fSize), (42, I (s0.fPlus.length : Int)), (43, I w_8)] [(1, bSystem s0)])
theorem impl_IsSystem_l0_s : ∀ p r, impl_IsSystem_l0 p = some r → M_impl_IsSystem_l0 p r := by
 refine impl_IsSystem_l0.partial_correctness M_impl_IsSystem_l0 ?_
 rintro impl_IsSystem_l0_f impl_IsSystem_l0_ih ⟨s0, w_8⟩ r h
 intro c hc
 show WpL Try.prog c (cl (cl (cr (cl (cr (cr (cr B83))))))) (impl_IsSystem_F1 c s0 r) (mkS [(1, .ra 1 0), (3, I s0.fSize), (42, I (s0.fPlus.length : Int)), (43, I w_8)] [(1, bSystem s0)])
 refine WpL.step ?_
 refine sN ?_
 refine rg0 hc 1 [(1, .ra 1 0), (3, I s0.fSize), (42, I (s0.fPlus.length : Int)), (43, I w_8), (44, .bool (decide (w_8 < (s0.fPlus.length : Int))))] [(1, bSystem s0)] ?_
 refine seqQ_norm ?_
 refine sN ?_
 rcases itesome h with ⟨hb_9, h⟩ | ⟨hb_9, h⟩
 ·refine cT ((decide (w_8 < (s0.fPlus.length : Int)))) hb_9 ?_
  refine Wp.skipN (by kernel_rfl) ?_
  refine seqQ_norm ?_
  refine sN ?_
  refine Wp.blockN (i := 1) (by kernel_rfl) ?_
  refine sN ?_
  refine rg0 hc 2 [(1, .ra 1 0), (3, I s0.fSize), (4, I w_8), (42, I (s0.fPlus.length : Int)), (43, I w_8)] [(1, bSystem s0)] ?_
  refine seqQ_norm ?_
  refine sN ?_
  obtain ⟨v_10, hj_11, h⟩ := bsome h
  refine Wp.into (x := .normal) (mkS [(1, .ra 1 0), (3, I s0.fSize), (42, I (s0.fPlus.length : Int)), (43, I w_8), (63, .bool v_10)] [(1, bSystem s0)]) ?_ ?_
  ·replace h := hj_11
   obtain ⟨e_7_4, hi_7_4, h⟩ := bsome h
   obtain ⟨r_7_6, hr_7_6, h⟩ := bsome h
   rcases itesome h with ⟨hb_7_0, h⟩ | ⟨hb_7_0, h⟩
   ·obtain ⟨e_7_13, hi_7_13, h⟩ := bsome h
    obtain ⟨r_7_15, hr_7_15, h⟩ := bsome h
    refine rg hc ah6_3 [oN, oN, oN, oN, some (.el (I e_7_4)), oN, oc (.bool r_7_6), oN, oN, oN, oN, oN, oN, some (.el (I e_7_13)), oN, oc (.bool r_7_15), oN, oF] [(1, .ra 1 0), (3, I s0.fSize), (42, I (s0.fPlus.length : Int)), (43, I w_8), (63, .bool (!r_7_15))] [(1, bSystem s0)] (ai (ix hi_7_4) (ai (impl_Systemhas_s _ _ hr_7_6) (ai bod_84 (ai (oi (.bool r_7_6)) (ar 5 (nF hb_7_0) (ai (ix hi_7_13) (ar 2 (nF hb_7_0) (ai (impl_Systemhas_s _ _ hr_7_15) (ai bod_84 (ai (oi (.bool r_7_15)) (ar 2 (nF hb_7_0) trivial))))))))))) ?_
    obtain rfl := Option.some.inj h
    exact Into.mk
   ·refine rg hc ah6_3 [oN, oN, oN, oN, some (.el (I e_7_4)), oN, oc (.bool r_7_6), oN, oN, o_, o_, o_, o_, o_, o_, o_, o_, oT] [(1, .ra 1 0), (3, I s0.fSize), (42, I (s0.fPlus.length : Int)), (43, I w_8), (63, .bool true)] [(1, bSystem s0)] (ai (ix hi_7_4) (ai (impl_Systemhas_s _ _ hr_7_6) (ai bod_84 (ai (oi (.bool r_7_6)) (ar 8 (neF (nT hb_7_0)) (ai (nT hb_7_0) trivial)))))) ?_
    obtain rfl := Option.some.inj h
    exact Into.mk
  ·clear hj_11
   refine seqQ_norm ?_
   rcases itesome h with ⟨hb_12, h⟩ | ⟨hb_12, h⟩
   ·refine cT v_10 hb_12 ?_
    refine sN ?_
    refine rg0 hc 1 [(2, .bool false)] [] ?_
    refine seqQ_norm ?_
    refine Wp.retN (by kernel_rfl) ?_
    refine blockQ_ret ?_
    refine seqQ_ret ?_
    refine loopQ_ret ?_
    obtain rfl := Option.some.inj h
    exact RetE.ret (fl := [true]) (by kernel_rfl)
   ·refine cF v_10 hb_12 ?_
    refine Wp.skipN (by kernel_rfl) ?_
    refine blockQ_norm ?_
    refine seqQ_norm ?_
    refine rg0 hc 2 [(1, .ra 1 0), (3, I s0.fSize), (42, I (s0.fPlus.length : Int)), (43, I (wr (w_8 + 1)))] [(1, bSystem s0)] ?_
    refine loopQ_norm ?_
    exact (impl_IsSystem_l0_ih _ _ h c hc)
 ·refine cF ((decide (w_8 < (s0.fPlus.length : Int)))) hb_9 ?_
  refine Wp.exitN (i := 0) (by kernel_rfl) ?_
  refine seqQ_exit ?_
  refine loopQ_exit ?_
  obtain rfl := Option.some.inj h
  exact Into.view (fun a w hv => SRx.renL [] hv (by kernel_rfl) (by kernel_rfl) (by kernel_rfl))
def impl_IsSystem_F2 (c : Ctx) (s0 : GSystem) (a_40 : Int) (b_55 : Int) : (Unit) ⊕ (Bool) → Exit → AState → Prop
 | .inl _ => Into c (.exit 6) (mkS [(1, .ra 1 0), (3, I s0.fSize), (5, I a_40), (6, I b_55)] [(1, bSystem s0)])
 | .inr r => RetE TIx Try.f83 [] (.bool r)
def impl_IsSystem_l1 (p : GSystem × Int × Int × Int) : Option ((Unit) ⊕ (Bool)) :=
 match p with
 | (s0, a_40, b_55, c_62) =>
  if (decide (c_62 < s0.fSize)) = true then
   (impl_SystemlawsOf (s0, a_40, b_55, c_62)) >>= fun r_23_4 =>
   if r_23_4 = true then
    impl_IsSystem_l1 (s0, a_40, b_55, (wr (c_62 + 1)))
   else
    some (.inr false)
  else
   some (.inl ())
 partial_fixpoint
def M_impl_IsSystem_l1 (p : GSystem × Int × Int × Int) (fl : (Unit) ⊕ (Bool)) : Prop :=
 match p with
 | (s0, a_40, b_55, c_62) => ∀ c : Ctx, c.nt = 157 → WpL Try.prog c (cl (cl (cr (cr (cl (cl (cr (cl (cl (cr (cr (cl (cl (cr (cl (cl (cr (cl (cr (cr (cr (cr B83)))))))))))))))))))))) (impl_IsSystem_F2 c s0 a_40 b_55 fl) (mkS [(1, .ra 1 0), (3, I s0.fSize), (5, I a_40), (6, I b_55), (7, I c_62)] [(1, bSystem s0)])
theorem impl_IsSystem_l1_s : ∀ p r, impl_IsSystem_l1 p = some r → M_impl_IsSystem_l1 p r := by
 refine impl_IsSystem_l1.partial_correctness M_impl_IsSystem_l1 ?_
 rintro impl_IsSystem_l1_f impl_IsSystem_l1_ih ⟨s0, a_40, b_55, c_62⟩ r h
 intro c hc
 show WpL Try.prog c (cl (cl (cr (cr (cl (cl (cr (cl (cl (cr (cr (cl (cl (cr (cl (cl (cr (cl (cr (cr (cr (cr B83)))))))))))))))))))))) (impl_IsSystem_F2 c s0 a_40 b_55 r) (mkS [(1, .ra 1 0), (3, I s0.fSize), (5, I a_40), (6, I b_55), (7, I c_62)] [(1, bSystem s0)])
 refine WpL.step ?_
 refine sN ?_
 refine sN ?_
 refine rg0 hc 3 [(1, .ra 1 0), (3, I s0.fSize), (5, I a_40), (6, I b_55), (7, I c_62), (148, .bool (decide (c_62 < s0.fSize)))] [(1, bSystem s0)] ?_
 refine seqQ_norm ?_
 rcases itesome h with ⟨hb_63, h⟩ | ⟨hb_63, h⟩
 ·refine cT ((decide (c_62 < s0.fSize))) hb_63 ?_
  refine Wp.skipN (by kernel_rfl) ?_
  refine seqQ_norm ?_
  refine sN ?_
  refine Wp.blockN (i := 7) (by kernel_rfl) ?_
  refine sN ?_
  obtain ⟨r_23_4, hr_23_4, h⟩ := bsome h
  refine rg hc none [oN, oN, oN, oN, oc (.bool r_23_4), oN] [(1, .ra 1 0), (3, I s0.fSize), (5, I a_40), (6, I b_55), (7, I c_62), (156, .bool (!r_23_4))] [(1, bSystem s0)] (ai (impl_SystemlawsOf_s _ _ hr_23_4) (ai bod_122 (ai (oi (.bool r_23_4)) trivial))) ?_
  refine seqQ_norm ?_
  rcases itesome h with ⟨hb_64, h⟩ | ⟨hb_64, h⟩
  ·refine cF (!r_23_4) (nF hb_64) ?_
   refine Wp.skipN (by kernel_rfl) ?_
   refine blockQ_norm ?_
   refine seqQ_norm ?_
   refine rg0 hc 3 [(1, .ra 1 0), (3, I s0.fSize), (5, I a_40), (6, I b_55), (7, I (wr (c_62 + 1)))] [(1, bSystem s0)] ?_
   refine loopQ_norm ?_
   exact (impl_IsSystem_l1_ih _ _ h c hc)
  ·refine cT (!r_23_4) (nT hb_64) ?_
   refine sN ?_
   refine rg0 hc 1 [(2, .bool false)] [] ?_
   refine seqQ_norm ?_
   refine Wp.retN (by kernel_rfl) ?_
   refine blockQ_ret ?_
   refine seqQ_ret ?_
   refine loopQ_ret ?_
   obtain rfl := Option.some.inj h
   exact RetE.ret (fl := [true]) (by kernel_rfl)
 ·refine cF ((decide (c_62 < s0.fSize))) hb_63 ?_
  refine Wp.exitN (i := 6) (by kernel_rfl) ?_
  refine seqQ_exit ?_
  refine loopQ_exit ?_
  obtain rfl := Option.some.inj h
  exact Into.view (fun a w hv => SRx.renL [] hv (by kernel_rfl) (by kernel_rfl) (by kernel_rfl))
def impl_IsSystem_F3 (c : Ctx) (s0 : GSystem) (a_40 : Int) : (Unit) ⊕ (Bool) → Exit → AState → Prop
 | .inl _ => Into c (.exit 4) (mkS [(1, .ra 1 0), (3, I s0.fSize), (5, I a_40)] [(1, bSystem s0)])
 | .inr r => RetE TIx Try.f83 [] (.bool r)
def impl_IsSystem_l2 (p : GSystem × Int × Int) : Option ((Unit) ⊕ (Bool)) :=
 match p with
 | (s0, a_40, b_55) =>
  if (decide (b_55 < s0.fSize)) = true then
   (
    (impl_Systemplus (s0, a_40, b_55)) >>= fun r_18_3 =>
    (impl_Systemplus (s0, b_55, a_40)) >>= fun r_18_7 =>
    if (r_18_3 != r_18_7) = true then
     some (true)
    else
     if (a_40 != b_55) = true then
      (impl_Systembelow (s0, a_40, b_55)) >>= fun r_18_17 =>
      if r_18_17 = true then
       (impl_Systembelow (s0, b_55, a_40)) >>= fun r_18_23 =>
       if r_18_23 = true then
        some (true)
       else
        (impl_Systemjoin (s0, a_40, b_55)) >>= fun r_18_30 =>
        some ((decide (r_18_30 < 0)))
      else
       (impl_Systemjoin (s0, a_40, b_55)) >>= fun r_18_30 =>
       some ((decide (r_18_30 < 0)))
     else
      (impl_Systemjoin (s0, a_40, b_55)) >>= fun r_18_30 =>
      some ((decide (r_18_30 < 0)))
   ) >>= fun v_57 =>
   if v_57 = true then
    some (.inr false)
   else
    (impl_IsSystem_l1 (s0, a_40, b_55, 0)) >>= fun fl => match fl with
    | .inl () =>
     impl_IsSystem_l2 (s0, a_40, (wr (b_55 + 1)))
    | .inr r =>
     some (.inr r)
  else
   some (.inl ())
 partial_fixpoint
def M_impl_IsSystem_l2 (p : GSystem × Int × Int) (fl : (Unit) ⊕ (Bool)) : Prop :=
 match p with
 | (s0, a_40, b_55) => ∀ c : Ctx, c.nt = 157 → WpL Try.prog c (cl (cl (cr (cr (cl (cl (cr (cl (cl (cr (cl (cr (cr (cr (cr B83))))))))))))))) (impl_IsSystem_F3 c s0 a_40 fl) (mkS [(1, .ra 1 0), (3, I s0.fSize), (5, I a_40), (6, I b_55)] [(1, bSystem s0)])
theorem impl_IsSystem_l2_s : ∀ p r, impl_IsSystem_l2 p = some r → M_impl_IsSystem_l2 p r := by
 refine impl_IsSystem_l2.partial_correctness M_impl_IsSystem_l2 ?_
 rintro impl_IsSystem_l2_f impl_IsSystem_l2_ih ⟨s0, a_40, b_55⟩ r h
 intro c hc
 show WpL Try.prog c (cl (cl (cr (cr (cl (cl (cr (cl (cl (cr (cl (cr (cr (cr (cr B83))))))))))))))) (impl_IsSystem_F3 c s0 a_40 r) (mkS [(1, .ra 1 0), (3, I s0.fSize), (5, I a_40), (6, I b_55)] [(1, bSystem s0)])
 refine WpL.step ?_
 refine sN ?_
 refine sN ?_
 refine rg0 hc 3 [(1, .ra 1 0), (3, I s0.fSize), (5, I a_40), (6, I b_55), (110, .bool (decide (b_55 < s0.fSize)))] [(1, bSystem s0)] ?_
 refine seqQ_norm ?_
 rcases itesome h with ⟨hb_56, h⟩ | ⟨hb_56, h⟩
 ·refine cT ((decide (b_55 < s0.fSize))) hb_56 ?_
  refine Wp.skipN (by kernel_rfl) ?_
  refine seqQ_norm ?_
  refine sN ?_
  refine Wp.blockN (i := 5) (by kernel_rfl) ?_
  refine sN ?_
  refine sN ?_
  obtain ⟨v_57, hj_58, h⟩ := bsome h
  refine Wp.into (x := .normal) (mkS [(1, .ra 1 0), (3, I s0.fSize), (5, I a_40), (6, I b_55), (145, .bool v_57)] [(1, bSystem s0)]) ?_ ?_
  ·replace h := hj_58
   obtain ⟨r_18_3, hr_18_3, h⟩ := bsome h
   obtain ⟨r_18_7, hr_18_7, h⟩ := bsome h
   rcases itesome h with ⟨hb_18_0, h⟩ | ⟨hb_18_0, h⟩
   ·refine rg hc ah6_4 [oN, oN, oN, oc (I r_18_3), oN, oN, oN, oc (I r_18_7), oN, oN, o_, o_, o_, o_, o_, o_, o_, o_, o_, o_, o_, o_, o_, o_, o_, oT, oN, o_, o_, o_, o_, o_, oT] [(1, .ra 1 0), (3, I s0.fSize), (5, I a_40), (6, I b_55), (145, .bool true)] [(1, bSystem s0)] (ai (impl_Systemplus_s _ _ hr_18_3) (ai bod_118 (ai (oi (I r_18_3)) (ai (impl_Systemplus_s _ _ hr_18_7) (ai bod_118 (ai (oi (I r_18_7)) (ar 7 (neF hb_18_0) (ai hb_18_0 (ar 5 nf (ai tt trivial)))))))))) ?_
    obtain rfl := Option.some.inj h
    exact Into.mk
   ·rcases itesome h with ⟨hb_18_1, h⟩ | ⟨hb_18_1, h⟩
    ·obtain ⟨r_18_17, hr_18_17, h⟩ := bsome h
     rcases itesome h with ⟨hb_18_2, h⟩ | ⟨hb_18_2, h⟩
     ·obtain ⟨r_18_23, hr_18_23, h⟩ := bsome h
      rcases itesome h with ⟨hb_18_3, h⟩ | ⟨hb_18_3, h⟩
      ·refine rg hc ah6_4 [oN, oN, oN, oc (I r_18_3), oN, oN, oN, oc (I r_18_7), oN, oN, oN, oN, oN, oN, oN, oN, oN, oc (.bool r_18_17), oT, oN, oN, oN, oN, oc (.bool r_18_23), oT, oF, oN, o_, o_, o_, o_, o_, oT] [(1, .ra 1 0), (3, I s0.fSize), (5, I a_40), (6, I b_55), (145, .bool true)] [(1, bSystem s0)] (ai (impl_Systemplus_s _ _ hr_18_3) (ai bod_118 (ai (oi (I r_18_3)) (ai (impl_Systemplus_s _ _ hr_18_7) (ai bod_118 (ai (oi (I r_18_7)) (ar 4 hb_18_0 (ar 4 hb_18_1 (ai (impl_Systembelow_s _ _ hr_18_17) (ai bod_120 (ai (oi (.bool r_18_17)) (ai hb_18_0 (ai hb_18_1 (ai hb_18_0 (ar 4 hb_18_2 (ai (impl_Systembelow_s _ _ hr_18_23) (ai bod_120 (ai (oi (.bool r_18_23)) (ai hb_18_0 (ai hb_18_2 (ai hb_18_0 (ar 5 (neF hb_18_3) (ai hb_18_3 trivial))))))))))))))))))))))) ?_
       obtain rfl := Option.some.inj h
       exact Into.mk
      ·obtain ⟨r_18_30, hr_18_30, h⟩ := bsome h
       refine rg hc ah6_4 [oN, oN, oN, oc (I r_18_3), oN, oN, oN, oc (I r_18_7), oN, oN, oN, oN, oN, oN, oN, oN, oN, oc (.bool r_18_17), oT, oN, oN, oN, oN, oc (.bool r_18_23), oT, oF, oN, oN, oN, oN, oc (I r_18_30), oN, oF] [(1, .ra 1 0), (3, I s0.fSize), (5, I a_40), (6, I b_55), (145, .bool (decide (r_18_30 < 0)))] [(1, bSystem s0)] (ai (impl_Systemplus_s _ _ hr_18_3) (ai bod_118 (ai (oi (I r_18_3)) (ai (impl_Systemplus_s _ _ hr_18_7) (ai bod_118 (ai (oi (I r_18_7)) (ar 4 hb_18_0 (ar 4 hb_18_1 (ai (impl_Systembelow_s _ _ hr_18_17) (ai bod_120 (ai (oi (.bool r_18_17)) (ai hb_18_0 (ai hb_18_1 (ai hb_18_0 (ar 4 hb_18_2 (ai (impl_Systembelow_s _ _ hr_18_23) (ai bod_120 (ai (oi (.bool r_18_23)) (ai hb_18_0 (ai hb_18_2 (ai hb_18_0 (ar 4 hb_18_3 (ai (impl_Systemjoin_s _ _ hr_18_30) (ai bod_121 (ai (oi (I r_18_30)) (ar 2 hb_18_3 trivial)))))))))))))))))))))))))) ?_
       obtain rfl := Option.some.inj h
       exact Into.mk
     ·obtain ⟨r_18_30, hr_18_30, h⟩ := bsome h
      refine rg hc ah6_4 [oN, oN, oN, oc (I r_18_3), oN, oN, oN, oc (I r_18_7), oN, oN, oN, oN, oN, oN, oN, oN, oN, oc (.bool r_18_17), oT, oN, o_, o_, o_, o_, oF, oF, oN, oN, oN, oN, oc (I r_18_30), oN, oF] [(1, .ra 1 0), (3, I s0.fSize), (5, I a_40), (6, I b_55), (145, .bool (decide (r_18_30 < 0)))] [(1, bSystem s0)] (ai (impl_Systemplus_s _ _ hr_18_3) (ai bod_118 (ai (oi (I r_18_3)) (ai (impl_Systemplus_s _ _ hr_18_7) (ai bod_118 (ai (oi (I r_18_7)) (ar 4 hb_18_0 (ar 4 hb_18_1 (ai (impl_Systembelow_s _ _ hr_18_17) (ai bod_120 (ai (oi (.bool r_18_17)) (ai hb_18_0 (ai hb_18_1 (ai hb_18_0 (ar 4 (neT hb_18_2) (ai hb_18_0 (ai hb_18_2 (ai hb_18_0 (ar 4 (rfl : false = false) (ai (impl_Systemjoin_s _ _ hr_18_30) (ai bod_121 (ai (oi (I r_18_30)) (ar 2 (rfl : false = false) trivial))))))))))))))))))))))) ?_
      obtain rfl := Option.some.inj h
      exact Into.mk
    ·obtain ⟨r_18_30, hr_18_30, h⟩ := bsome h
     refine rg hc ah6_4 [oN, oN, oN, oc (I r_18_3), oN, oN, oN, oc (I r_18_7), oN, oN, oN, oN, oN, oN, o_, o_, o_, o_, oF, oN, o_, o_, o_, o_, oF, oF, oN, oN, oN, oN, oc (I r_18_30), oN, oF] [(1, .ra 1 0), (3, I s0.fSize), (5, I a_40), (6, I b_55), (145, .bool (decide (r_18_30 < 0)))] [(1, bSystem s0)] (ai (impl_Systemplus_s _ _ hr_18_3) (ai bod_118 (ai (oi (I r_18_3)) (ai (impl_Systemplus_s _ _ hr_18_7) (ai bod_118 (ai (oi (I r_18_7)) (ar 4 hb_18_0 (ar 4 (neT hb_18_1) (ai hb_18_0 (ai hb_18_1 (ai hb_18_0 (ar 4 (neT (rfl : false = false)) (ai hb_18_0 (ai (rfl : false = false) (ai hb_18_0 (ar 4 (rfl : false = false) (ai (impl_Systemjoin_s _ _ hr_18_30) (ai bod_121 (ai (oi (I r_18_30)) (ar 2 (rfl : false = false) trivial)))))))))))))))))))) ?_
     obtain rfl := Option.some.inj h
     exact Into.mk
  ·clear hj_58
   refine seqQ_norm ?_
   rcases itesome h with ⟨hb_59, h⟩ | ⟨hb_59, h⟩
   ·refine cT v_57 hb_59 ?_
    refine sN ?_
    refine rg0 hc 1 [(2, .bool false)] [] ?_
    refine seqQ_norm ?_
    refine Wp.retN (by kernel_rfl) ?_
    refine seqQ_ret ?_
    refine blockQ_ret ?_
    refine seqQ_ret ?_
    refine loopQ_ret ?_
    obtain rfl := Option.some.inj h
    exact RetE.ret (fl := [true]) (by kernel_rfl)
   ·refine cF v_57 hb_59 ?_
    refine Wp.skipN (by kernel_rfl) ?_
    refine seqQ_norm ?_
    refine sN ?_
    refine rg0 hc 1 [(1, .ra 1 0), (3, I s0.fSize), (5, I a_40), (6, I b_55), (7, I 0)] [(1, bSystem s0)] ?_
    refine seqQ_norm ?_
    refine Wp.blockN (i := 6) (by kernel_rfl) ?_
    obtain ⟨fl, hl_65, h⟩ := bsome h
    have hL := impl_IsSystem_l1_s _ _ hl_65 c hc
    refine Wp.loopN (by kernel_rfl) ?_
    rcases fl with ⟨⟩ | r
    ·refine WpL.into (e := (.exit 6)) (mkS [(1, .ra 1 0), (3, I s0.fSize), (5, I a_40), (6, I b_55)] [(1, bSystem s0)]) hL ?_
     refine blockQ_hit ?_
     refine blockQ_norm ?_
     refine seqQ_norm ?_
     refine rg0 hc 3 [(1, .ra 1 0), (3, I s0.fSize), (5, I a_40), (6, I (wr (b_55 + 1)))] [(1, bSystem s0)] ?_
     refine loopQ_norm ?_
     exact (impl_IsSystem_l2_ih _ _ h c hc)
    ·refine WpL.mono hL ?_
     rintro _ _ ⟨rfl, hfin⟩
     refine blockQ_ret ?_
     refine blockQ_ret ?_
     refine seqQ_ret ?_
     refine loopQ_ret ?_
     obtain rfl := Option.some.inj h
     exact ⟨rfl, hfin⟩
 ·refine cF ((decide (b_55 < s0.fSize))) hb_56 ?_
  refine Wp.exitN (i := 4) (by kernel_rfl) ?_
  refine seqQ_exit ?_
  refine loopQ_exit ?_
  obtain rfl := Option.some.inj h
  exact Into.view (fun a w hv => SRx.renL [] hv (by kernel_rfl) (by kernel_rfl) (by kernel_rfl))
def impl_IsSystem_F4 (c : Ctx) : (Unit) ⊕ (Bool) → Exit → AState → Prop
 | .inl _ => Into c (.exit 2) (mkS [] [])
 | .inr r => RetE TIx Try.f83 [] (.bool r)
def impl_IsSystem_l3 (p : GSystem × Int) : Option ((Unit) ⊕ (Bool)) :=
 match p with
 | (s0, a_40) =>
  if (decide (a_40 < s0.fSize)) = true then
   (
    (impl_Systemplus (s0, 0, a_40)) >>= fun r_13_2 =>
    if (r_13_2 != a_40) = true then
     some (true)
    else
     (impl_Systemtimes (s0, 1, a_40)) >>= fun r_13_8 =>
     if (r_13_8 != a_40) = true then
      some (true)
     else
      (impl_Systemtimes (s0, a_40, 1)) >>= fun r_13_15 =>
      if (r_13_15 != a_40) = true then
       some (true)
      else
       (impl_Systemtimes (s0, 0, a_40)) >>= fun r_13_22 =>
       if (r_13_22 != 0) = true then
        some (true)
       else
        (impl_Systemtimes (s0, a_40, 0)) >>= fun r_13_28 =>
        if (r_13_28 != 0) = true then
         some (true)
        else
         (impl_Systembelow (s0, a_40, a_40)) >>= fun r_13_35 =>
         some ((!r_13_35))
   ) >>= fun v_42 =>
   if v_42 = true then
    some (.inr false)
   else
    (impl_IsSystem_l2 (s0, a_40, 0)) >>= fun fl => match fl with
    | .inl () =>
     impl_IsSystem_l3 (s0, (wr (a_40 + 1)))
    | .inr r =>
     some (.inr r)
  else
   some (.inl ())
 partial_fixpoint
def M_impl_IsSystem_l3 (p : GSystem × Int) (fl : (Unit) ⊕ (Bool)) : Prop :=
 match p with
 | (s0, a_40) => ∀ c : Ctx, c.nt = 157 → WpL Try.prog c (cl (cl (cr (cl (cr (cr (cr (cr B83)))))))) (impl_IsSystem_F4 c fl) (mkS [(1, .ra 1 0), (3, I s0.fSize), (5, I a_40)] [(1, bSystem s0)])
theorem impl_IsSystem_l3_s : ∀ p r, impl_IsSystem_l3 p = some r → M_impl_IsSystem_l3 p r := by
 refine impl_IsSystem_l3.partial_correctness M_impl_IsSystem_l3 ?_
 rintro impl_IsSystem_l3_f impl_IsSystem_l3_ih ⟨s0, a_40⟩ r h
 intro c hc
 show WpL Try.prog c (cl (cl (cr (cl (cr (cr (cr (cr B83)))))))) (impl_IsSystem_F4 c r) (mkS [(1, .ra 1 0), (3, I s0.fSize), (5, I a_40)] [(1, bSystem s0)])
 refine WpL.step ?_
 refine sN ?_
 refine sN ?_
 refine rg0 hc 3 [(1, .ra 1 0), (3, I s0.fSize), (5, I a_40), (67, .bool (decide (a_40 < s0.fSize)))] [(1, bSystem s0)] ?_
 refine seqQ_norm ?_
 rcases itesome h with ⟨hb_41, h⟩ | ⟨hb_41, h⟩
 ·refine cT ((decide (a_40 < s0.fSize))) hb_41 ?_
  refine Wp.skipN (by kernel_rfl) ?_
  refine seqQ_norm ?_
  refine sN ?_
  refine Wp.blockN (i := 3) (by kernel_rfl) ?_
  refine sN ?_
  refine sN ?_
  obtain ⟨v_42, hj_43, h⟩ := bsome h
  refine Wp.into (x := .normal) (mkS [(1, .ra 1 0), (3, I s0.fSize), (5, I a_40), (107, .bool v_42)] [(1, bSystem s0)]) ?_ ?_
  ·replace h := hj_43
   obtain ⟨r_13_2, hr_13_2, h⟩ := bsome h
   rcases itesome h with ⟨hb_13_0, h⟩ | ⟨hb_13_0, h⟩
   ·refine rg hc none [oN, oN, oc (I r_13_2), oN, oN, oN, o_, o_, o_, o_, o_, oT, oN, o_, o_, o_, o_, o_, oT, oN, o_, o_, o_, o_, oT, oN, o_, o_, o_, o_, oT, oN, o_, o_, o_, o_, o_, oT] [(1, .ra 1 0), (3, I s0.fSize), (5, I a_40), (107, .bool true)] [(1, bSystem s0)] (ai (impl_Systemplus_s _ _ hr_13_2) (ai bod_118 (ai (oi (I r_13_2)) (ar 5 (neF hb_13_0) (ai hb_13_0 (ar 5 nf (ai tt (ar 4 nf (ai tt (ar 4 nf (ai tt (ar 5 nf (ai tt trivial))))))))))))) ?_
    obtain rfl := Option.some.inj h
    exact Into.mk
   ·obtain ⟨r_13_8, hr_13_8, h⟩ := bsome h
    rcases itesome h with ⟨hb_13_1, h⟩ | ⟨hb_13_1, h⟩
    ·refine rg hc none [oN, oN, oc (I r_13_2), oN, oN, oN, oN, oN, oc (I r_13_8), oN, oN, oF, oN, o_, o_, o_, o_, o_, oT, oN, o_, o_, o_, o_, oT, oN, o_, o_, o_, o_, oT, oN, o_, o_, o_, o_, o_, oT] [(1, .ra 1 0), (3, I s0.fSize), (5, I a_40), (107, .bool true)] [(1, bSystem s0)] (ai (impl_Systemplus_s _ _ hr_13_2) (ai bod_118 (ai (oi (I r_13_2)) (ar 3 hb_13_0 (ai (impl_Systemtimes_s _ _ hr_13_8) (ai bod_119 (ai (oi (I r_13_8)) (ar 3 hb_13_0 (ar 5 (neF hb_13_1) (ai hb_13_1 (ar 4 nf (ai tt (ar 4 nf (ai tt (ar 5 nf (ai tt trivial)))))))))))))))) ?_
     obtain rfl := Option.some.inj h
     exact Into.mk
    ·obtain ⟨r_13_15, hr_13_15, h⟩ := bsome h
     rcases itesome h with ⟨hb_13_2, h⟩ | ⟨hb_13_2, h⟩
     ·refine rg hc none [oN, oN, oc (I r_13_2), oN, oN, oN, oN, oN, oc (I r_13_8), oN, oN, oF, oN, oN, oN, oc (I r_13_15), oN, oN, oF, oN, o_, o_, o_, o_, oT, oN, o_, o_, o_, o_, oT, oN, o_, o_, o_, o_, o_, oT] [(1, .ra 1 0), (3, I s0.fSize), (5, I a_40), (107, .bool true)] [(1, bSystem s0)] (ai (impl_Systemplus_s _ _ hr_13_2) (ai bod_118 (ai (oi (I r_13_2)) (ar 3 hb_13_0 (ai (impl_Systemtimes_s _ _ hr_13_8) (ai bod_119 (ai (oi (I r_13_8)) (ar 3 hb_13_0 (ar 3 hb_13_1 (ai (impl_Systemtimes_s _ _ hr_13_15) (ai bod_119 (ai (oi (I r_13_15)) (ar 3 hb_13_1 (ar 4 (neF hb_13_2) (ai hb_13_2 (ar 4 nf (ai tt (ar 5 nf (ai tt trivial))))))))))))))))))) ?_
      obtain rfl := Option.some.inj h
      exact Into.mk
     ·obtain ⟨r_13_22, hr_13_22, h⟩ := bsome h
      rcases itesome h with ⟨hb_13_3, h⟩ | ⟨hb_13_3, h⟩
      ·refine rg hc none [oN, oN, oc (I r_13_2), oN, oN, oN, oN, oN, oc (I r_13_8), oN, oN, oF, oN, oN, oN, oc (I r_13_15), oN, oN, oF, oN, oN, oN, oc (I r_13_22), oN, oF, oN, o_, o_, o_, o_, oT, oN, o_, o_, o_, o_, o_, oT] [(1, .ra 1 0), (3, I s0.fSize), (5, I a_40), (107, .bool true)] [(1, bSystem s0)] (ai (impl_Systemplus_s _ _ hr_13_2) (ai bod_118 (ai (oi (I r_13_2)) (ar 3 hb_13_0 (ai (impl_Systemtimes_s _ _ hr_13_8) (ai bod_119 (ai (oi (I r_13_8)) (ar 3 hb_13_0 (ar 3 hb_13_1 (ai (impl_Systemtimes_s _ _ hr_13_15) (ai bod_119 (ai (oi (I r_13_15)) (ar 3 hb_13_1 (ar 3 hb_13_2 (ai (impl_Systemtimes_s _ _ hr_13_22) (ai bod_119 (ai (oi (I r_13_22)) (ar 2 hb_13_2 (ar 4 (neF hb_13_3) (ai hb_13_3 (ar 5 nf (ai tt trivial)))))))))))))))))))))) ?_
       obtain rfl := Option.some.inj h
       exact Into.mk
      ·obtain ⟨r_13_28, hr_13_28, h⟩ := bsome h
       rcases itesome h with ⟨hb_13_4, h⟩ | ⟨hb_13_4, h⟩
       ·refine rg hc none [oN, oN, oc (I r_13_2), oN, oN, oN, oN, oN, oc (I r_13_8), oN, oN, oF, oN, oN, oN, oc (I r_13_15), oN, oN, oF, oN, oN, oN, oc (I r_13_22), oN, oF, oN, oN, oN, oc (I r_13_28), oN, oF, oN, o_, o_, o_, o_, o_, oT] [(1, .ra 1 0), (3, I s0.fSize), (5, I a_40), (107, .bool true)] [(1, bSystem s0)] (ai (impl_Systemplus_s _ _ hr_13_2) (ai bod_118 (ai (oi (I r_13_2)) (ar 3 hb_13_0 (ai (impl_Systemtimes_s _ _ hr_13_8) (ai bod_119 (ai (oi (I r_13_8)) (ar 3 hb_13_0 (ar 3 hb_13_1 (ai (impl_Systemtimes_s _ _ hr_13_15) (ai bod_119 (ai (oi (I r_13_15)) (ar 3 hb_13_1 (ar 3 hb_13_2 (ai (impl_Systemtimes_s _ _ hr_13_22) (ai bod_119 (ai (oi (I r_13_22)) (ar 2 hb_13_2 (ar 3 hb_13_3 (ai (impl_Systemtimes_s _ _ hr_13_28) (ai bod_119 (ai (oi (I r_13_28)) (ar 2 hb_13_3 (ar 5 (neF hb_13_4) (ai hb_13_4 trivial))))))))))))))))))))))))) ?_
        obtain rfl := Option.some.inj h
        exact Into.mk
       ·obtain ⟨r_13_35, hr_13_35, h⟩ := bsome h
        refine rg hc none [oN, oN, oc (I r_13_2), oN, oN, oN, oN, oN, oc (I r_13_8), oN, oN, oF, oN, oN, oN, oc (I r_13_15), oN, oN, oF, oN, oN, oN, oc (I r_13_22), oN, oF, oN, oN, oN, oc (I r_13_28), oN, oF, oN, oN, oN, oN, oc (.bool r_13_35), oN, oF] [(1, .ra 1 0), (3, I s0.fSize), (5, I a_40), (107, .bool (!r_13_35))] [(1, bSystem s0)] (ai (impl_Systemplus_s _ _ hr_13_2) (ai bod_118 (ai (oi (I r_13_2)) (ar 3 hb_13_0 (ai (impl_Systemtimes_s _ _ hr_13_8) (ai bod_119 (ai (oi (I r_13_8)) (ar 3 hb_13_0 (ar 3 hb_13_1 (ai (impl_Systemtimes_s _ _ hr_13_15) (ai bod_119 (ai (oi (I r_13_15)) (ar 3 hb_13_1 (ar 3 hb_13_2 (ai (impl_Systemtimes_s _ _ hr_13_22) (ai bod_119 (ai (oi (I r_13_22)) (ar 2 hb_13_2 (ar 3 hb_13_3 (ai (impl_Systemtimes_s _ _ hr_13_28) (ai bod_119 (ai (oi (I r_13_28)) (ar 2 hb_13_3 (ar 4 hb_13_4 (ai (impl_Systembelow_s _ _ hr_13_35) (ai bod_120 (ai (oi (.bool r_13_35)) (ar 2 hb_13_4 trivial)))))))))))))))))))))))))))) ?_
        obtain rfl := Option.some.inj h
        exact Into.mk
  ·clear hj_43
   refine seqQ_norm ?_
   rcases itesome h with ⟨hb_44, h⟩ | ⟨hb_44, h⟩
   ·refine cT v_42 hb_44 ?_
    refine sN ?_
    refine rg0 hc 1 [(2, .bool false)] [] ?_
    refine seqQ_norm ?_
    refine Wp.retN (by kernel_rfl) ?_
    refine seqQ_ret ?_
    refine blockQ_ret ?_
    refine seqQ_ret ?_
    refine loopQ_ret ?_
    obtain rfl := Option.some.inj h
    exact RetE.ret (fl := [true]) (by kernel_rfl)
   ·refine cF v_42 hb_44 ?_
    refine Wp.skipN (by kernel_rfl) ?_
    refine seqQ_norm ?_
    refine sN ?_
    refine rg0 hc 1 [(1, .ra 1 0), (3, I s0.fSize), (5, I a_40), (6, I 0)] [(1, bSystem s0)] ?_
    refine seqQ_norm ?_
    refine Wp.blockN (i := 4) (by kernel_rfl) ?_
    obtain ⟨fl, hl_66, h⟩ := bsome h
    have hL := impl_IsSystem_l2_s _ _ hl_66 c hc
    refine Wp.loopN (by kernel_rfl) ?_
    rcases fl with ⟨⟩ | r
    ·refine WpL.into (e := (.exit 4)) (mkS [(1, .ra 1 0), (3, I s0.fSize), (5, I a_40)] [(1, bSystem s0)]) hL ?_
     refine blockQ_hit ?_
     refine blockQ_norm ?_
     refine seqQ_norm ?_
     refine rg0 hc 3 [(1, .ra 1 0), (3, I s0.fSize), (5, I (wr (a_40 + 1)))] [(1, bSystem s0)] ?_
     refine loopQ_norm ?_
     exact (impl_IsSystem_l3_ih _ _ h c hc)
    ·refine WpL.mono hL ?_
     rintro _ _ ⟨rfl, hfin⟩
     refine blockQ_ret ?_
     refine blockQ_ret ?_
     refine seqQ_ret ?_
     refine loopQ_ret ?_
     obtain rfl := Option.some.inj h
     exact ⟨rfl, hfin⟩
 ·refine cF ((decide (a_40 < s0.fSize))) hb_41 ?_
  refine Wp.exitN (i := 2) (by kernel_rfl) ?_
  refine seqQ_exit ?_
  refine loopQ_exit ?_
  obtain rfl := Option.some.inj h
  exact Into.view (fun a w hv => SRx.renL [] hv (by kernel_rfl) (by kernel_rfl) (by kernel_rfl))
end Go.Am
