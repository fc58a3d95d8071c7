/- Walks, printed. -/
import Derived.Test.YtifijafaaljamaaDoorGPMTi
set_option linter.unusedVariables false
set_option linter.unusedSimpArgs false
set_option maxRecDepth 100000
namespace Go.Am
open Go Go.Proofs
def K3j (c : Ctx) (at1 : Int) : Int × Int → Exit → Q0d → Prop
 | (a0,a1) => Qe7 c (.exit 0) (mkS [(1,I at1),(6,I a0),(7,I a1)] [])
def K3k (p : ByteArray × Int × Int × Int) : Option (Int × Int) :=
 match p with
 | (s0,at1,a0,a1) =>
  ((
  if (decide (a1 < (s0.size : Int))) = true then
  if (decide (a1 < (wr (at1 + 3)))) = true then
  (Qft s0 a1) >>= fun a2 =>
  if (decide (a2 ≥ 48)) = true then
  (Qft s0 a1) >>= fun a3 =>
  some ((decide (a3 ≤ 57)))
  else
  some (false)
  else
  some (false)
  else
  some (false)
  ) : Option (Bool)) >>= fun a4 =>
  if a4 = true then
  (Qft s0 a1) >>= fun a5 =>
  K3k (s0,at1,(wr ((wr (10 * a0)) + (wr (IntKind.u8.wrap (a5 - 48))))),(wr (a1 + 1)))
  else
  some ((a0,a1))
 partial_fixpoint
def K3l (p : ByteArray × Int × Int × Int) (fl : Int × Int) : Prop :=
 match p with
 | (s0,at1,a0,a1) => ∀ c : Ctx,c.nt = 47 → WpL Tryd.prog c (cl (cl (cl (cr (cr (cr B32)))))) (K3j c at1 fl) (mkS [(0,.str s0),(1,I at1),(6,I a0),(7,I a1)] [])
theorem K3m : ∀ p r,K3k p = some r → K3l p r := by
 refine K3k.partial_correctness K3l ?_
 rintro spec_l2Number_l0_f spec_l2Number_l0_ih ⟨s0,at1,a0,a1⟩ r h
 intro c hc
 refine WpL.step (sN (sN ?_))
 obtain ⟨a2,a3,h⟩ := Qel h
 refine wi [] [(30,.bool a2)] ?_ ?_
 ·replace h := a3
  rcases is h with ⟨a4,h⟩ | ⟨a4,h⟩
  ·rcases is h with ⟨a5,h⟩ | ⟨a5,h⟩
   ·obtain ⟨a6,a7,h⟩ := Qel h
    rcases is h with ⟨a8,h⟩ | ⟨a8,h⟩
    ·obtain ⟨a9,b1,h⟩ := Qel h
     obtain rfl := os h
     exact rj hc none (nN 9 [oT,oN,oN,oN,nQ ⟨[(22,.int .u8 a6)],[],[]⟩,oN,oT,oN,oN,oN,nQ ⟨[(28,.int .u8 a9)],[],[]⟩,oN,oT]) (ar 5 a4 (ar 3 a5 (ab (Qfv (d := 22) a7) (Qfu a7) (ar 2 a5 (ar 3 a8 (ab (Qfv (d := 28) b1) (Qfu b1) (ar 2 a8 tv)))))))
    obtain rfl := os h
    exact rj hc none (nN 9 ([oT,oN,oN,oN,nQ ⟨[(22,.int .u8 a6)],[],[]⟩,oN,oT,oN]++n_ 4 [oF])) (ar 5 a4 (ar 3 a5 (ab (Qfv (d := 22) a7) (Qfu a7) (ar 2 a5 (ar 4 (neT a8) (ai a8 tv))))))
   obtain rfl := os h
   exact rj hc none (nN 9 ([oT,oN]++n_ 4 ([oF,oN]++n_ 4 [oF]))) (ar 5 a4 (ar 4 (neT a5) (ai a5 (ar 4 (neT fF) (ai fF tv)))))
  obtain rfl := os h
  exact rj hc none (nN 5 (n_ 4 ([oF,oN]++n_ 4 ([oF,oN]++n_ 4 [oF])))) (ar 4 (neT a4) (ai a4 (ar 4 (neT fF) (ai fF (ar 4 (neT fF) (ai fF tv))))))
 clear a3
 refine ic h (fun b2 h => ?_) fun b2 h => ?_
 ·refine sk (bk 1 ?_)
  obtain ⟨b3,b4,h⟩ := Qel h
  exact rsd hc none (nN 4 ([nQ ⟨[(35,.int .u8 b3)],[],[]⟩]++nN 4 [])) [30,6] [(6,I (wr ((wr (10 * a0)) + (wr (IntKind.u8.wrap (b3 - 48))))))] [] (ab (Qfv (d := 35) b4) (Qfu b4) tv) (ri0 hc 3 (Qe3 (spec_l2Number_l0_ih _ _ h c hc)))
 refine xt 0 (Qdx (Qe4 ?_))
 obtain ⟨rfl,rfl⟩ := Prod.mk.inj (os h)
 exact iv []
def K3n (p : ByteArray × Int) : Option (Int × Int) :=
 match p with
 | (s0,at1) =>
  (K3k (s0,at1,0,at1)) >>= fun (a0,a1) =>
  if (a1 == at1) = true then
  some ((-1),at1)
  else
  some (a0,a1)
def K3o (p : ByteArray × Int) (r : Int × Int) : Prop :=
 match p with
 | (s0,at1) => Q7a Tryd.prog 32 [.str s0,I at1] (.tup [I r.1,I r.2]) []
theorem K3p : ∀ p r,K3n p = some r → K3o p r := by
 rintro ⟨s0,at1⟩ r h
 unfold K3n at h
 refine b0 Tryd.f32 B32 47 [(0,.str s0),(1,I at1)] fun c hc => (K3g hc 2 [] [] [] (K3g hc 1 [] [(6,I 0)] [] (rs0 hc 2 [(0,.str s0),(1,I at1),(6,I 0),(7,I at1)] [] (sN (bk 0 ?_)))))
 obtain ⟨⟨a0,a1⟩,a2,h⟩ := Qel h
 have hL := K3m _ _ a2 c hc
 refine lp (wl hL (Qdz (sN (K3g hc 3 [] [(43,.bool (a1 == at1))] [] (ic h (fun a3 h => ?_) fun a3 h => ?_)))))
 ·obtain rfl := os h
  exact rs0 hc 3 [(4,I (-1)),(5,I at1)] [] (rt (rq [true,true]))
 obtain rfl := os h
 exact sk (rs0 hc 4 [(4,I a0),(5,I a1)] [] (rt (rq [true,true])))
def K3q (op0 : Int) : Option (ByteArray) :=
 (idx [(ByteArray.mk #[97,100,100]),(ByteArray.mk #[105,102]),(ByteArray.mk #[112,97,105,114]),(ByteArray.mk #[115,112,108,105,116]),(ByteArray.mk #[108,101,102,116]),(ByteArray.mk #[114,105,103,104,116]),(ByteArray.mk #[99,97,115,101]),(ByteArray.mk #[102,117,110]),(ByteArray.mk #[97,112,112]),(ByteArray.mk #[98,111,120]),(ByteArray.mk #[111,112,101,110])] (wr (op0 - 2))) >>= fun a0 =>
 some a0
def K3r (op0 : Int) (r : ByteArray) : Prop :=
 Q7a Tryd.prog 47 [I op0] (.str r) []
theorem K3s : ∀ p r,K3q p = some r → K3r p r := by
 rintro op0 r h
 unfold K3q at h
 refine b0 Tryd.f47 B47 8 [(0,I op0)] fun c hc => (K3g hc 1 [] [] [] ?_)
 obtain ⟨a0,a1,h⟩ := Qel h
 obtain rfl := os h
 exact rs hc none [mK 1,oN,oN,oN,eL (.str a0),oN] [(2,.str a0)] [] (ab (Qeq (enc := AV.str) a1) (Qep (enc := AV.str) (x := .str a0) a1 (Qf3 a0)).2 tv) (rt (rq [true]))
def K3t (op0 : Int) : Option (Bool) :=
 ((
 if (op0 == 5) = true then
 some (true)
 else
 if (op0 == 8) = true then
 some (true)
 else
 if (op0 == 9) = true then
 some (true)
 else
 if (op0 == 11) = true then
 some (true)
 else
 some ((op0 == 12))
 ) : Option (Bool)) >>= fun a0 =>
 some a0
def K3u (op0 : Int) (r : Bool) : Prop :=
 Q7a Tryd.prog 48 [I op0] (.bool r) []
theorem K3v : ∀ p r,K3t p = some r → K3u p r := by
 rintro op0 r h
 unfold K3t at h
 refine b0 Tryd.f48 B48 21 [(0,I op0)] fun c hc => (K3g hc 1 [] [] [] (sN ?_))
 obtain ⟨a0,a1,h⟩ := Qel h
 refine Wp.into (x := .normal) (mkS [(2,.bool a0)] []) ?_ ?_
 ·replace h := a1
  rcases is h with ⟨a2,h⟩ | ⟨a2,h⟩
  ·obtain rfl := os h
   exact rj hc none [oN,oN,oN,o_,o_,oT,oN,o_,o_,oT,oN,o_,o_,oT,oN,o_,o_,oT,oN] (ar 2 (neF a2) (ai a2 (ar 2 nf (ai tt (ar 2 nf (ai tt (ar 2 nf (ai tt tv))))))))
  rcases is h with ⟨a3,h⟩ | ⟨a3,h⟩
  ·obtain rfl := os h
   exact rj hc none (nN 5 [oF,oN,o_,o_,oT,oN,o_,o_,oT,oN,o_,o_,oT,oN]) (ar 3 a2 (ar 2 (neF a3) (ai a3 (ar 2 nf (ai tt (ar 2 nf (ai tt tv)))))))
  rcases is h with ⟨a4,h⟩ | ⟨a4,h⟩
  ·obtain rfl := os h
   exact rj hc none (nN 5 [oF,oN,oN,oN,oF,oN,o_,o_,oT,oN,o_,o_,oT,oN]) (ar 3 a2 (ar 3 a3 (ar 2 (neF a4) (ai a4 (ar 2 nf (ai tt tv))))))
  rcases is h with ⟨a5,h⟩ | ⟨a5,h⟩
  ·obtain rfl := os h
   exact rj hc none (nN 5 [oF,oN,oN,oN,oF,oN,oN,oN,oF,oN,o_,o_,oT,oN]) (ar 3 a2 (ar 3 a3 (ar 3 a4 (ar 2 (neF a5) (ai a5 tv)))))
  obtain rfl := os h
  exact rj hc none (nN 5 [oF,oN,oN,oN,oF,oN,oN,oN,oF,oN,oN,oN,oF,oN]) (ar 3 a2 (ar 3 a3 (ar 3 a4 (ar 3 a5 tv))))
 clear a1
 obtain rfl := os h
 exact rt (rq [true])
def K3w (op0 : Int) : Option (Bool) :=
 ((
 if (op0 == 6) = true then
 some (true)
 else
 if (op0 == 7) = true then
 some (true)
 else
 some ((op0 == 9))
 ) : Option (Bool)) >>= fun a0 =>
 some a0
def K3x (op0 : Int) (r : Bool) : Prop :=
 Q7a Tryd.prog 49 [I op0] (.bool r) []
theorem K3y : ∀ p r,K3w p = some r → K3x p r := by
 rintro op0 r h
 unfold K3w at h
 refine b0 Tryd.f49 B49 13 [(0,I op0)] fun c hc => (K3g hc 1 [] [] [] (sN ?_))
 obtain ⟨a0,a1,h⟩ := Qel h
 refine Wp.into (x := .normal) (mkS [(2,.bool a0)] []) ?_ ?_
 ·replace h := a1
  rcases is h with ⟨a2,h⟩ | ⟨a2,h⟩
  ·obtain rfl := os h
   exact rj hc none [oN,oN,oN,o_,o_,oT,oN,o_,o_,oT,oN] (ar 2 (neF a2) (ai a2 (ar 2 nf (ai tt tv))))
  rcases is h with ⟨a3,h⟩ | ⟨a3,h⟩
  ·obtain rfl := os h
   exact rj hc none (nN 5 [oF,oN,o_,o_,oT,oN]) (ar 3 a2 (ar 2 (neF a3) (ai a3 tv)))
  obtain rfl := os h
  exact rj hc none (nN 5 [oF,oN,oN,oN,oF,oN]) (ar 3 a2 (ar 3 a3 tv))
 clear a1
 obtain rfl := os h
 exact rt (rq [true])
def K3z (n0 : Int) : Option (ByteArray) :=
 ((
 if (decide (n0 ≥ 10)) = true then
 (K3z (wr (Int.tdiv n0 10))) >>= fun a0 =>
 (chk (((a0.size + (strOfNums [(IntKind.u8.wrap (wr (48 + (Int.tmod n0 10))))]).size : Nat) : Int) ≤ 9223372036854775807)) >>= fun _ =>
 some ((a0 ++ (strOfNums [(IntKind.u8.wrap (wr (48 + (Int.tmod n0 10))))])))
 else
 some ((strOfNums [(IntKind.u8.wrap (wr (48 + (Int.tmod n0 10))))]))
 ) : Option (ByteArray)) >>= fun a1 =>
 some a1
 partial_fixpoint
def K40 (n0 : Int) (r : ByteArray) : Prop :=
 Q7a Tryd.prog 53 [I n0] (.str r) []
theorem K41 : ∀ p r,K3z p = some r → K40 p r := by
 refine K3z.partial_correctness K40 ?_
 rintro spec_l1Decimal_f spec_l1Decimal_ih n0 r h
 refine b0 Tryd.f53 B53 18 [(0,I n0)] fun c hc => (K3g hc 1 [] [] [] (rsd hc none (nN 4 [mK 1,oT,oN]) [] [(3,.str (strOfNums [(IntKind.u8.wrap (wr (48 + (Int.tmod n0 10))))]))] [] (ai ((by decide) : (10 : Int) ≠ 0) tv) (sN (K3g hc 2 [] [(11,.bool (decide (n0 ≥ 10)))] [] ?_))))
 obtain ⟨a0,a1,h⟩ := Qel h
 refine Wp.into (x := .normal) (mkS [(3,.str a0)] []) ?_ ?_
 ·replace h := a1
  refine ic h (fun a2 h => ?_) fun a2 h => ?_
  ·obtain ⟨a3,a4,_,a5,h⟩ := bq2 h
   obtain rfl := os h
   exact rj hc none [oN,oN,oc (.str a3),oN,oN,oN] (ai ((by decide) : (10 : Int) ≠ 0) (cq (spec_l1Decimal_ih _ _ a4) K1q (ai (Qen a5) tv)))
  obtain rfl := os h
  exact sk (iv [])
 clear a1
 obtain rfl := os h
 exact rs0 hc 2 [(2,.str a0)] [] (rt (rq [true]))
def K42 (g0 : Int) : Option (ByteArray) :=
 if (decide (g0 < 0)) = true then
 some (ByteArray.mk #[63])
 else
 (K3z g0) >>= fun a0 =>
 some a0
def K43 (g0 : Int) (r : ByteArray) : Prop :=
 Q7a Tryd.prog 42 [I g0] (.str r) []
theorem K44 : ∀ p r,K42 p = some r → K43 p r := by
 rintro g0 r h
 unfold K42 at h
 refine b0 Tryd.f42 B42 7 [(0,I g0)] fun c hc => (K3g hc 1 [] [] [] (sN (K3g hc 2 [] [(4,.bool (decide (g0 < 0)))] [] (ic h (fun a0 h => ?_) fun a0 h => ?_))))
 ·obtain rfl := os h
  exact rs0 hc 1 [(2,.str (ByteArray.mk #[63]))] [] (rt (rq [true]))
 refine sk ?_
 obtain ⟨a1,a2,h⟩ := Qel h
 obtain rfl := os h
 exact rs hc none [oN,oc (.str a1),oN] [(2,.str a1)] [] (cq (K41 _ _ a2) K1q tv) (rt (rq [true]))
def K45 (c : Ctx) (t0 : ByteArray) (at1 : Int) : Int → Exit → Q0d → Prop
 | a0 => Qe7 c (.exit 0) (mkS [(0,.str t0),(1,I at1),(8,I a0)] [])
def K46 (p : ByteArray × Int × Int × Int) : Option (Int) :=
 match p with
 | (t0,at1,stop2,a0) =>
  ((
  if (decide (a0 < (t0.size : Int))) = true then
  (Qft t0 a0) >>= fun a1 =>
  some ((a1 != stop2))
  else
  some (false)
  ) : Option (Bool)) >>= fun a2 =>
  if a2 = true then
  K46 (t0,at1,stop2,(wr (a0 + 1)))
  else
  some (a0)
 partial_fixpoint
def K47 (p : ByteArray × Int × Int × Int) (fl : Int) : Prop :=
 match p with
 | (t0,at1,stop2,a0) => ∀ c : Ctx,c.nt = 44 → WpL Tryd.prog c (cl (cl (cl (cr (cr B25))))) (K45 c t0 at1 fl) (mkS [(0,.str t0),(1,I at1),(2,.int .u8 stop2),(8,I a0)] [])
theorem K48 : ∀ p r,K46 p = some r → K47 p r := by
 refine K46.partial_correctness K47 ?_
 rintro spec_l2Read_l0_f spec_l2Read_l0_ih ⟨t0,at1,stop2,a0⟩ r h
 intro c hc
 refine WpL.step (sN (sN ?_))
 obtain ⟨a1,a2,h⟩ := Qel h
 refine wi [] [(21,.bool a1)] ?_ ?_
 ·replace h := a2
  rcases is h with ⟨a3,h⟩ | ⟨a3,h⟩
  ·obtain ⟨a4,a5,h⟩ := Qel h
   obtain rfl := os h
   exact rj hc none (nN 7 [nQ ⟨[(18,.int .u8 a4)],[],[]⟩,oN,oN,oT]) (ar 3 a3 (ab (Qfv (d := 18) a5) (Qfu a5) (ar 3 a3 tv)))
  obtain rfl := os h
  exact rj hc none (nN 5 (n_ 5 [oF])) (ar 5 (neT a3) (ai a3 tv))
 clear a2
 refine ic h (fun a6 h => ?_) fun a6 h => ?_
 ·exact sk (bk 1 (ri0 hc 3 (Qe3 (spec_l2Read_l0_ih _ _ h c hc))))
 obtain rfl := os h
 exact xt 0 (Qdx (Qe4 (iv [])))
def K49 (c : Ctx) (a0 : Int) : (Unit) ⊕ ((Int × Int)) → Exit → Q0d → Prop
 | .inl _ => Qe7 c (.exit 2) (mkS [(8,I a0)] [])
 | .inr r => Qeg TIx Tryd.f25 [] (.tup [I r.1,I r.2])
def K4a (p : ByteArray × Int × Int × Int) : Option ((Unit) ⊕ ((Int × Int))) :=
 match p with
 | (t0,at1,a0,a1) =>
  if (decide (a1 < 16)) = true then
  (Qev t0 (some at1) (some a0)) >>= fun a2 =>
  (K42 a1) >>= fun a3 =>
  if (a2.toList == a3.toList) = true then
  some (.inr (a1,(wr (a0 + 1))))
  else
  K4a (t0,at1,a0,(wr (a1 + 1)))
  else
  some (.inl ())
 partial_fixpoint
def K4b (p : ByteArray × Int × Int × Int) (fl : (Unit) ⊕ ((Int × Int))) : Prop :=
 match p with
 | (t0,at1,a0,a1) => ∀ c : Ctx,c.nt = 44 → WpL Tryd.prog c (cl (cl (cr (cl (cr (cr (cr (cr B25)))))))) (K49 c a0 fl) (mkS [(0,.str t0),(1,I at1),(8,I a0),(9,I a1)] [])
theorem K4c : ∀ p r,K4a p = some r → K4b p r := by
 refine K4a.partial_correctness K4b ?_
 rintro spec_l2Read_l1_f spec_l2Read_l1_ih ⟨t0,at1,a0,a1⟩ r h
 intro c hc
 refine WpL.step (sN (K3g hc 2 [] [(30,.bool (decide (a1 < 16)))] [] (ic h (fun a2 h => ?_) fun a2 h => ?_)))
 ·refine sk (sN (bk 3 ?_))
  obtain ⟨a3,a4,a5,a6,h⟩ := bq2 h
  refine rsd hc (rx [[0],[0],[0],[3],[0],[0,4],[6]]) [oN,oN,oN,nQ ⟨[(36,.str a3)],[],[]⟩,oN,oc (.str a5),oN] [30] [(39,.bool (a3.toList == a5.toList))] [] (ab (Qex (d := 36) a4) (Qew a4) (cq (K44 _ _ a6) K1r tv)) (ic h (fun a7 h => ?_) fun a7 h => ?_)
  ·obtain rfl := os h
   exact rs0 hc 5 [(6,I a1),(7,I (wr (a0 + 1)))] [] (rt (re [true,true]))
  exact sk (ri0 hc 3 (Qe3 (spec_l2Read_l1_ih _ _ h c hc)))
 obtain rfl := os h
 exact xt 2 (Qdx (Qe4 (iv [])))
def K4d (p : ByteArray × Int × Int) : Option (Int × Int) :=
 match p with
 | (t0,at1,stop2) =>
  (K46 (t0,at1,stop2,at1)) >>= fun a0 =>
  if (a0 == (t0.size : Int)) = true then
  some ((-2),a0)
  else
  (K4a (t0,at1,a0,(-1))) >>= fun fl => match fl with
  | .inl () =>
   some ((-2),a0)
  | .inr r =>
   some r
def K4e (p : ByteArray × Int × Int) (r : Int × Int) : Prop :=
 match p with
 | (t0,at1,stop2) => Q7a Tryd.prog 25 [.str t0,I at1,.int .u8 stop2] (.tup [I r.1,I r.2]) []
theorem K4f : ∀ p r,K4d p = some r → K4e p r := by
 rintro ⟨t0,at1,stop2⟩ r h
 unfold K4d at h
 refine b0 Tryd.f25 B25 44 [(0,.str t0),(1,I at1),(2,.int .u8 stop2)] fun c hc => (K3g hc 2 [] [] [] (rs0 hc 2 [(0,.str t0),(1,I at1),(2,.int .u8 stop2),(8,I at1)] [] (sN (bk 0 ?_))))
 obtain ⟨a0,a1,h⟩ := Qel h
 have hL := K48 _ _ a1 c hc
 refine lp (wl hL (Qdz (sN (K3g hc 4 [] [(27,.bool (a0 == (t0.size : Int)))] [] (ic h (fun a2 h => ?_) fun a2 h => ?_)))))
 ·obtain rfl := os h
  exact rs0 hc 3 [(6,I (-2)),(7,I a0)] [] (rt (rq [true,true]))
 refine sk (sN (rs0 hc 1 [(0,.str t0),(1,I at1),(8,I a0),(9,I (-1))] [] (bk 2 ?_)))
 obtain ⟨fl,a3,h⟩ := Qel h
 have hL := K4c _ _ a3 c hc
 refine lp ?_
 rcases fl with ⟨⟩ | r
 ·refine wl hL ?_
  obtain rfl := os h
  exact Qdz (rs0 hc 3 [(6,I (-2)),(7,I a0)] [] (rt (rq [true,true])))
 refine WpL.mono hL ?_
 rintro _ _ ⟨rfl,hfin⟩
 obtain rfl := os h
 exact ⟨.inl rfl,hfin⟩
def K4g (p : Bool × Int) : Option (Int) :=
 match p with
 | (arrow0,g1) =>
  ((
  if arrow0 = true then
  some ((decide (g1 < 0)))
  else
  some (false)
  ) : Option (Bool)) >>= fun a0 =>
  if a0 = true then
  some 35
  else
  if arrow0 = true then
  some (wr (3 + g1))
  else
  if (decide (g1 < 0)) = true then
  some 36
  else
  some (wr (19 + g1))
def K4h (p : Bool × Int) (r : Int) : Prop :=
 match p with
 | (arrow0,g1) => Q7a Tryd.prog 26 [.bool arrow0,I g1] (I r) []
theorem K4i : ∀ p r,K4g p = some r → K4h p r := by
 rintro ⟨arrow0,g1⟩ r h
 unfold K4g at h
 refine b0 Tryd.f26 B26 20 [(0,.bool arrow0),(1,I g1)] fun c hc => (K3g hc 1 [] [] [] (sN (bk 0 (sN ?_))))
 obtain ⟨a0,a1,h⟩ := Qel h
 refine wi [] [(5,.bool a0)] ?_ ?_
 ·replace h := a1
  rcases is h with ⟨a2,h⟩ | ⟨a2,h⟩
  ·obtain rfl := os h
   exact rj hc none (nN 4 [oT,oN]) (ar 3 a2 tv)
  obtain rfl := os h
  exact rj hc none [oN,oN,o_,o_,oF,oN] (ar 2 (neT a2) (ai a2 tv))
 clear a1
 refine ic h (fun a3 h => ?_) fun a3 h => ?_
 ·obtain rfl := os h
  exact rs0 hc 1 [(4,I 35)] [] (rt (rq [true]))
 refine K3g hc 2 [5,0] [(11,.bool arrow0)] [] (ic h (fun a4 h => ?_) fun a4 h => ?_)
 ·obtain rfl := os h
  exact rs0 hc 3 [(4,I (wr (3 + g1)))] [] (rt (rq [true]))
 refine K3g hc 3 [11] [(15,.bool (decide (g1 < 0)))] [] (ic h (fun a5 h => ?_) fun a5 h => ?_)
 ·obtain rfl := os h
  exact rs0 hc 1 [(4,I 36)] [] (rt (rq [true]))
 obtain rfl := os h
 exact sk (rs0 hc 3 [(4,I (wr (19 + g1)))] [] (rt (rq [true])))
def K4j (p : Int × Int × Int) : Option (Bool) :=
 match p with
 | (n0,low1,high2) =>
  ((
  if (decide (n0 ≥ low1)) = true then
  some ((decide (n0 ≤ high2)))
  else
  some (false)
  ) : Option (Bool)) >>= fun a0 =>
  some a0
def K4k (p : Int × Int × Int) (r : Bool) : Prop :=
 match p with
 | (n0,low1,high2) => Q7a Tryd.prog 50 [I n0,I low1,I high2] (.bool r) []
theorem K4l : ∀ p r,K4j p = some r → K4k p r := by
 rintro ⟨n0,low1,high2⟩ r h
 unfold K4j at h
 refine b0 Tryd.f50 B50 15 [(0,I n0),(1,I low1),(2,I high2)] fun c hc => (K3g hc 1 [] [] [] (sN ?_))
 obtain ⟨a0,a1,h⟩ := Qel h
 refine Wp.into (x := .normal) (mkS [(6,.bool a0)] []) ?_ ?_
 ·replace h := a1
  rcases is h with ⟨a2,h⟩ | ⟨a2,h⟩
  ·obtain rfl := os h
   exact rj hc none (nN 7 [oT,oN]) (ar 4 a2 tv)
  obtain rfl := os h
  exact rj hc none (nN 4 [o_,o_,o_,oF,oN]) (ar 3 (neT a2) (ai a2 tv))
 clear a1
 obtain rfl := os h
 exact rt (rq [true])
def K4m (c0 : Int) : Option (Bool) :=
 ((
 (K4j (c0,3,18)) >>= fun a0 =>
 if a0 = true then
 some (true)
 else
 some ((c0 == 35))
 ) : Option (Bool)) >>= fun a1 =>
 some a1
def K4n (c0 : Int) (r : Bool) : Prop :=
 Q7a Tryd.prog 43 [I c0] (.bool r) []
theorem K4o : ∀ p r,K4m p = some r → K4n p r := by
 rintro c0 r h
 unfold K4m at h
 refine b0 Tryd.f43 B43 9 [(0,I c0)] fun c hc => (K3g hc 1 [] [] [] (sN ?_))
 obtain ⟨a0,a1,h⟩ := Qel h
 refine Wp.into (x := .normal) (mkS [(2,.bool a0)] []) ?_ ?_
 ·replace h := a1
  obtain ⟨a2,a3,h⟩ := Qel h
  rcases is h with ⟨a4,h⟩ | ⟨a4,h⟩
  ·obtain rfl := os h
   exact rj hc none [oN,oc (.bool a2),oN,o_,o_,oT,oN] (cq (K4l _ _ a3) K1u (ar 2 (neF a4) (ai a4 tv)))
  obtain rfl := os h
  exact rj hc none [oN,oc (.bool a2),oN,oN,oN,oF,oN] (cq (K4l _ _ a3) K1u (ar 3 a4 tv))
 clear a1
 obtain rfl := os h
 exact rt (rq [true])
def K4p (c0 : Int) : Option (Bool) :=
 ((
 (K4j (c0,19,34)) >>= fun a0 =>
 if a0 = true then
 some (true)
 else
 some ((c0 == 36))
 ) : Option (Bool)) >>= fun a1 =>
 some a1
def K4q (c0 : Int) (r : Bool) : Prop :=
 Q7a Tryd.prog 44 [I c0] (.bool r) []
theorem K4r : ∀ p r,K4p p = some r → K4q p r := by
 rintro c0 r h
 unfold K4p at h
 refine b0 Tryd.f44 B44 9 [(0,I c0)] fun c hc => (K3g hc 1 [] [] [] (sN ?_))
 obtain ⟨a0,a1,h⟩ := Qel h
 refine Wp.into (x := .normal) (mkS [(2,.bool a0)] []) ?_ ?_
 ·replace h := a1
  obtain ⟨a2,a3,h⟩ := Qel h
  rcases is h with ⟨a4,h⟩ | ⟨a4,h⟩
  ·obtain rfl := os h
   exact rj hc none [oN,oc (.bool a2),oN,o_,o_,oT,oN] (cq (K4l _ _ a3) K1u (ar 2 (neF a4) (ai a4 tv)))
  obtain rfl := os h
  exact rj hc none [oN,oc (.bool a2),oN,oN,oN,oF,oN] (cq (K4l _ _ a3) K1u (ar 3 a4 tv))
 clear a1
 obtain rfl := os h
 exact rt (rq [true])
def K4s (c0 : Int) : Option (Int) :=
 if (c0 == 0) = true then
 some 0
 else
 ((
 if (c0 == 1) = true then
 some (true)
 else
 if (c0 == 2) = true then
 some (true)
 else
 (K4m c0) >>= fun a0 =>
 some (a0)
 ) : Option (Bool)) >>= fun a1 =>
 if a1 = true then
 some 2
 else
 (K4p c0) >>= fun a2 =>
 if a2 = true then
 some 1
 else
 some (-1)
def K4t (c0 : Int) (r : Int) : Prop :=
 Q7a Tryd.prog 27 [I c0] (I r) []
theorem K4u : ∀ p r,K4s p = some r → K4t p r := by
 rintro c0 r h
 unfold K4s at h
 refine b0 Tryd.f27 B27 20 [(0,I c0)] fun c hc => (K3g hc 1 [] [] [] (sN (bk 0 (K3g hc 3 [] [(3,.bool (c0 == 0))] [] (ic h (fun a0 h => ?_) fun a0 h => ?_)))))
 ·obtain rfl := os h
  exact rs0 hc 1 [(2,I 0)] [] (rt (rq [true]))
 refine sN ?_
 obtain ⟨a1,a2,h⟩ := Qel h
 refine wi [3] [(6,.bool a1)] ?_ ?_
 ·replace h := a2
  rcases is h with ⟨a3,h⟩ | ⟨a3,h⟩
  ·obtain rfl := os h
   exact rj hc none [oN,oN,oN,o_,o_,oT,oN,o_,o_,oT,oN] (ar 2 (neF a3) (ai a3 (ar 2 nf (ai tt tv))))
  rcases is h with ⟨a4,h⟩ | ⟨a4,h⟩
  ·obtain rfl := os h
   exact rj hc none (nN 5 [oF,oN,o_,o_,oT,oN]) (ar 3 a3 (ar 2 (neF a4) (ai a4 tv)))
  obtain ⟨a5,a6,h⟩ := Qel h
  obtain rfl := os h
  exact rj hc none (nN 5 [oF,oN,oN,oc (.bool a5),oF,oN]) (ar 3 a3 (ar 2 a4 (cq (K4o _ _ a6) K1v (ai a4 tv))))
 clear a2
 refine ic h (fun a7 h => ?_) fun a7 h => ?_
 ·obtain rfl := os h
  exact rs0 hc 1 [(2,I 2)] [] (rt (rq [true]))
 obtain ⟨a8,a9,h⟩ := Qel h
 refine rs hc none [oN,oc (.bool a8),oN] [(17,.bool a8)] [] (cq (K4r _ _ a9) K1w tv) (ic h (fun b1 h => ?_) fun b1 h => ?_)
 ·obtain rfl := os h
  exact rs0 hc 1 [(2,I 1)] [] (rt (rq [true]))
 obtain rfl := os h
 exact sk (rs0 hc 1 [(2,I (-1))] [] (rt (rq [true])))
def K4v (c : Ctx) (t0 : ByteArray) (a0 : List Int) (a1 : Int) : (Int × Int) ⊕ (((List Int) × Int)) → Exit → Q0d → Prop
 | .inl (a2,a3) => Qe7 c .normal (mkS [(0,.str t0),(1,I a2),(6,.rs 1),(7,I a1),(8,I a3)] [(1,rI a0)])
 | .inr r => Qeg TIx Tryd.f15 [] (.tup [oI r.1,I r.2])
def K4w (c : Ctx) (t0 : ByteArray) (a0 : List Int) (a1 : Int) : (Int × Int) ⊕ (((List Int) × Int)) → Exit → Q0d → Prop
 | .inl (a2,a3) => Qe7 c .normal (mkS [(0,.str t0),(1,I a2),(6,.rs 1),(7,I a1),(8,I a3)] [(1,rI a0)])
 | .inr r => Qeg TIx Tryd.f15 [] (.tup [oI r.1,I r.2])
def K4x (c : Ctx) : (Int × (List Int)) ⊕ (((List Int) × Int)) → Exit → Q0d → Prop
 | .inl (a0,a1) => Qe7 c (.exit 0) (mkS [(1,I a0),(6,.rs 1)] [(1,rI a1)])
 | .inr r => Qeg TIx Tryd.f15 [] (.tup [oI r.1,I r.2])
def K4y (p : ByteArray × Int × (List Int) × Int) : Option ((Int × (List Int)) ⊕ (((List Int) × Int))) :=
 match p with
 | (t0,a0,a1,a2) =>
  if (decide (a2 > 0)) = true then
  ((
  if (decide (a0 ≥ (t0.size : Int))) = true then
   some (true)
  else
   some ((decide ((a1.length : Int) ≥ 40)))
  ) : Option (Bool)) >>= fun a3 =>
  if a3 = true then
  some (.inr ([],(-1)))
  else
  (Qft t0 a0) >>= fun a4 =>
  ((
   if (a4 == 110) = true then
   some (.inl ((wr (a0 + 1)),0))
   else
   ((
    if (a4 == 42) = true then
    some ((a4 == 42))
    else
    some ((a4 == 43))
   ) : Option (Bool)) >>= fun a5 =>
   ((
    if a5 = true then
    (Qft t0 a0) >>= fun a6 =>
    ((
    if (a6 == 43) = true then
    some (2)
    else
    some (1)
    ) : Option (Int)) >>= fun a7 =>
    some (.inl ((wr (a0 + 1)),a7))
    else
    ((
    if (a4 == 62) = true then
    some ((a4 == 62))
    else
    some ((a4 == 33))
    ) : Option (Bool)) >>= fun a8 =>
    if a8 = true then
    (K4d (t0,(wr (a0 + 1)),46)) >>= fun (a9,b1) =>
    if (decide (a9 < (-1))) = true then
    some (.inr ([],(-1)))
    else
    (Qft t0 a0) >>= fun b2 =>
    (K4g ((b2 == 62),a9)) >>= fun b3 =>
    some (.inl (b1,b3))
    else
    some (.inr ([],(-1)))) : Option ((Int × Int) ⊕ (((List Int) × Int)))) >>= fun fl => match fl with
   | .inl (b4,b5) =>
    some (.inl (b4,b5))
   | .inr r =>
    some (.inr r)) : Option ((Int × Int) ⊕ (((List Int) × Int)))) >>= fun fl => match fl with
  | .inl (b6,b7) =>
   (Qey (a1.length + [b7].length) 8) >>= fun _ =>
   (K4s b7) >>= fun b8 =>
   K4y (t0,b6,(a1 ++ [b7]),(wr ((wr (a2 - 1)) + b8)))
  | .inr r =>
   some (.inr r)
  else
  some (.inl (a0,a1))
 partial_fixpoint
def K4z (p : ByteArray × Int × (List Int) × Int) (fl : (Int × (List Int)) ⊕ (((List Int) × Int))) : Prop :=
 match p with
 | (t0,a0,a1,a2) => ∀ c : Ctx,c.nt = 69 → WpL Tryd.prog c (cl (cl (cl (cr (cr (cr B15)))))) (K4x c fl) (mkS [(0,.str t0),(1,I a0),(6,.rs 1),(7,I a2)] [(1,rI a1)])
theorem K50 : ∀ p r,K4y p = some r → K4z p r := by
 refine K4y.partial_correctness K4z ?_
 rintro spec_l2Codes_l0_f spec_l2Codes_l0_ih ⟨t0,a0,a1,a2⟩ r h
 intro c hc
 refine WpL.step (sN (K3i hc 2 [] [(13,.bool (decide (a2 > 0)))] (ic h (fun a3 h => ?_) fun a3 h => ?_)))
 ·refine sk (bk 1 (sN (sN ?_)))
  obtain ⟨a4,a5,h⟩ := Qel h
  refine wi [13] [(22,.bool a4)] ?_ ?_
  ·replace h := a5
   rcases is h with ⟨a6,h⟩ | ⟨a6,h⟩
   ·obtain rfl := os h
    exact rj hc none (nN 5 [o_,o_,o_,oT]) (ar 3 (neF a6) (ai a6 tv))
   obtain rfl := os h
   exact rj hc none (nN 6 [nQ ⟨[(20,I (a1.length : Int))],[],[]⟩,oN,oF]) (ar 2 a6 (ai (Qer (d := 20) I a1) (ar 2 a6 tv)))
  clear a5
  refine ic h (fun a7 h => ?_) fun a7 h => ?_
  ·obtain rfl := os h
   exact rs0 hc 2 [(4,.nils),(5,I (-1))] [] (rt (re [true,true]))
  refine sk (K3i hc 1 [22] [(8,I 0)] (sN ?_))
  obtain ⟨a8,a9,h⟩ := Qel h
  refine K3h hc none [oN,oN,nQ ⟨[(25,.int .u8 a8)],[],[]⟩] [] [(25,.int .u8 a8)] (ab (Qfv (d := 25) a9) (Qfu a9) tv) (bk 2 (K3f hc 2 [(0,.str t0),(1,I a0),(6,.rs 1),(7,I a2),(8,I 0),(25,.int .u8 a8),(26,.bool (a8 == 110))] ?_))
  obtain ⟨fl,b1,h⟩ := Qel h
  refine flw (K4w c t0 a1 a2 fl) ?_ (fun hF => ?_)
  ·replace h := b1
   refine ic h (fun b2 h => ?_) fun b2 h => ?_
   ·obtain rfl := os h
    exact rj0 hc 3
   refine sN (K3i hc 2 [8,26] [(30,.bool (a8 == 42))] ?_)
   obtain ⟨b3,b4,h⟩ := Qel h
   refine Wp.into (x := .normal) (mkS [(0,.str t0),(1,I a0),(6,.rs 1),(7,I a2),(25,.int .u8 a8),(30,.bool b3)] [(1,rI a1)]) ?_ ?_
   ·replace h := b4
    refine ic h (fun b5 h => ?_) fun b5 h => ?_
    ·obtain rfl := os h
     exact sk im
    obtain rfl := os h
    exact rj0 hc 2
   clear b4
   obtain ⟨fl,b6,h⟩ := Qel h
   refine flw (K4v c t0 a1 a2 fl) ?_ (fun hF => ?_)
   ·replace h := b6
    refine ic h (fun b7 h => ?_) fun b7 h => ?_
    ·refine K3i hc 1 [25,30] [(8,I 1)] (sN ?_)
     obtain ⟨b8,b9,h⟩ := Qel h
     refine K3h hc none [oN,oN,nQ ⟨[(35,.int .u8 b8)],[],[]⟩,oN] [] [(36,.bool (b8 == 43))] (ab (Qfv (d := 35) b9) (Qfu b9) tv) ?_
     obtain ⟨c0,c1,h⟩ := Qel h
     refine wi [36,8] [(8,I c0)] ?_ ?_
     ·replace h := c1
      refine ic h (fun c2 h => ?_) fun c2 h => ?_
      ·obtain rfl := os h
       exact rj0 hc 1
      obtain rfl := os h
      exact sk (iv [])
     clear c1
     obtain rfl := os h
     exact rj0 hc 3
    refine sN (K3i hc 2 [30] [(39,.bool (a8 == 62))] ?_)
    obtain ⟨c3,c4,h⟩ := Qel h
    refine wi [39,25] [(39,.bool c3)] ?_ ?_
    ·replace h := c4
     refine ic h (fun c5 h => ?_) fun c5 h => ?_
     ·obtain rfl := os h
      exact sk (iv [])
     obtain rfl := os h
     exact rj0 hc 2
    clear c4
    refine ic h (fun c6 h => ?_) fun c6 h => ?_
    ·obtain ⟨⟨c7,c8⟩,c9,h⟩ := Qel h
     refine K3h hc none ([oN,oN,oN,oc (.tup [I c7,I c8])]++nN 5 []) [39] [(9,I c7),(10,I c8)] (cq (K4f _ _ c9) K1s tv) (sN (K3i hc 2 [] [(50,.bool (decide (c7 < (-1))))] (ic h (fun d0 h => ?_) fun d0 h => ?_)))
     ·obtain rfl := os h
      exact rs0 hc 2 [(4,.nils),(5,I (-1))] [] (rt (re [true,true]))
     refine sk ?_
     obtain ⟨d1,d2,d3,d4,h⟩ := bq2 h
     obtain rfl := os h
     exact K3h hc none [oN,oN,nQ ⟨[(53,.int .u8 d1)],[],[]⟩,oN,oN,oc (I d3),oN] [50,9,1] [(8,I d3)] (ab (Qfv (d := 53) d2) (Qfu d2) (cq (K4i _ _ d4) K1t tv)) (rj0 hc 2)
    obtain rfl := os h
    exact rs0 hc 2 [(4,.nils),(5,I (-1))] [] (rt (re [true,true]))
   rcases fl with ⟨d5,d6⟩ | r
   ·refine wf hF ?_
    obtain rfl := os h
    exact im
   refine Wp.mono hF ?_
   rintro _ _ ⟨rfl,hfin⟩
   obtain rfl := os h
   exact ⟨rfl,hfin⟩
  rcases fl with ⟨d7,d8⟩ | r
  ·refine wf hF ?_
   obtain ⟨_,d9,h⟩ := Qel h
   refine rsd hc none [oN,oN,mK 4,some (.eqv (.mk 5 true) ⟨[(61,.rs 5)],[(5,some (rI (a1 ++ [d8]))),(1,none),(4,none)],[5]⟩),oN] [6] [(6,.rs 5)] [(5,rI (a1 ++ [d8]))] (ab (congrArg (fun z => (⟨[(61,.rs 5)],[(5,some (.arr z)),(1,none),(4,none)],[5]⟩ : Wr)) ((List.map_append).symm : (List.map I a1) ++ (List.map I [d8]) = List.map I (a1 ++ [d8]))) (Qez (enc1 := I) (enc2 := I) (e1 := a1) (e2 := [d8]) (sz := 1) Qf8 Qf8 d9) tv) ?_
   obtain ⟨e0,e3,h⟩ := Qel h
   exact rgs hc none [oN,oN,oN,oc (I e0),oN,oN] [(0,.str t0),(1,I d7),(6,.rs 5),(7,I (wr ((wr (a2 - 1)) + e0)))] (cq (K4u _ _ e3) K1x tv) (Qe3 (WpL.view (fun a w hv => SRx.renL [(1,5)] hv (by kernel_rfl) (by kernel_rfl) (by kernel_rfl)) (spec_l2Codes_l0_ih _ _ h c hc)))
  refine Wp.mono hF ?_
  rintro _ _ ⟨rfl,hfin⟩
  obtain rfl := os h
  exact ⟨rfl,hfin⟩
 obtain rfl := os h
 exact xt 0 (Qdx (Qe4 (iv [])))
def K51 (p : ByteArray × Int) : Option ((List Int) × Int) :=
 match p with
 | (t0,at1) =>
  (K4y (t0,at1,[],1)) >>= fun fl => match fl with
  | .inl (a0,a1) =>
   some (a1,a0)
  | .inr r =>
   some r
def K52 (p : ByteArray × Int) (r : (List Int) × Int) : Prop :=
 match p with
 | (t0,at1) => Q7a Tryd.prog 15 [.str t0,I at1] (.tup [oI r.1,I r.2]) []
theorem K53 : ∀ p r,K51 p = some r → K52 p r := by
 rintro ⟨t0,at1⟩ r h
 unfold K51 at h
 refine b0 Tryd.f15 B15 69 [(0,.str t0),(1,I at1)] fun c hc => (K3g hc 2 [] [] [] (rsd hc none [mK 1,oN] [] [(6,.rs 1)] [(1,.arr (List.map I []))] tv (K3f hc 1 [(0,.str t0),(1,I at1),(6,.rs 1),(7,I 1)] (sN (bk 0 ?_)))))
 obtain ⟨fl,a0,h⟩ := Qel h
 have hL := K50 _ _ a0 c hc
 refine lp ?_
 rcases fl with ⟨a1,a2⟩ | r
 ·refine wl hL ?_
  obtain rfl := os h
  exact Qdz (K3f hc 4 [(4,.rs 1),(5,I a1)] (rt (rq [true,true])))
 refine WpL.mono hL ?_
 rintro _ _ ⟨rfl,hfin⟩
 obtain rfl := os h
 exact ⟨.inl rfl,hfin⟩
def K54 (c : Ctx) (s0 : ByteArray) (at1 : Int) (a0 : Int) : (Unit) ⊕ ((Int × Int) ⊕ ((K06 × Int))) → Exit → Q0d → Prop
 | .inl _ => Qe7 c (.exit 1) (mkS [(0,.str s0),(1,I at1),(4,.ra 1 0),(6,I a0)] [(1,zT)])
 | .inr (.inl (a1,a2)) => Qe7 c .normal (mkS [(0,.str s0),(1,I at1),(4,.ra 1 0),(6,I a0),(8,I a1),(9,.ra 5 0)] [(1,zT),(5,.box [I a0,I a2,.nils,.nils])])
 | .inr (.inr r) => Qeg TIx Tryd.f33 [] (.tup [.agg [I r.1.fOp,I r.1.fN,.osl (List.map I r.1.fType),oM K0c r.1.fKids],I r.2])
def K55 (c : Ctx) (s0 : ByteArray) (at1 : Int) (a0 : Int) (a1 : Int) : (Unit) ⊕ ((Int × (List Int)) ⊕ ((K06 × Int))) → Exit → Q0d → Prop
 | .inl _ => Qe7 c (.exit 1) (mkS [(0,.str s0),(1,I at1),(4,.ra 1 0),(6,I a0)] [(1,zT)])
 | .inr (.inl (a2,a3)) => Qe7 c .normal (mkS [(0,.str s0),(1,I at1),(4,.ra 1 0),(6,I a0),(8,I a2),(9,.ra 5 0)] [(1,zT),(5,.box [I a0,I a1,.rs 6,.nils]),(6,rI a3)])
 | .inr (.inr r) => Qeg TIx Tryd.f33 [] (.tup [.agg [I r.1.fOp,I r.1.fN,.osl (List.map I r.1.fType),oM K0c r.1.fKids],I r.2])
def K56 (c : Ctx) (s0 : ByteArray) (at1 : Int) (a0 : Int) : (Unit) ⊕ ((K06 × Int)) → Exit → Q0d → Prop
 | .inl _ => Qe7 c .normal (mkS [(0,.str s0),(1,I at1),(4,.ra 1 0),(6,I a0)] [(1,zT)])
 | .inr r => Qeg TIx Tryd.f33 [] (.tup [.agg [I r.1.fOp,I r.1.fN,.osl (List.map I r.1.fType),oM K0c r.1.fKids],I r.2])
def K57 (c : Ctx) : (Unit) ⊕ ((K06 × Int)) → Exit → Q0d → Prop
 | .inl _ => Qe7 c (.exit 0) (mkS [(4,.ra 1 0)] [(1,zT)])
 | .inr r => Qeg TIx Tryd.f33 [] (.tup [.agg [I r.1.fOp,I r.1.fN,.osl (List.map I r.1.fType),oM K0c r.1.fKids],I r.2])
def K58 (p : ByteArray × Int × Int) : Option ((Unit) ⊕ ((K06 × Int))) :=
 match p with
 | (s0,at1,a0) =>
  if (decide (a0 ≤ 12)) = true then
  ((
   (K3q a0) >>= fun a1 =>
   ((
   if (decide ((wr (at1 + (a1.size : Int))) ≥ (s0.size : Int))) = true then
    some (true)
   else
    (Qev s0 (some at1) (some (wr (at1 + (a1.size : Int))))) >>= fun a2 =>
    some ((!(a2.toList == a1.toList)))
   ) : Option (Bool)) >>= fun a3 =>
   if a3 = true then
   some (.inl ())
   else
   (K3t a0) >>= fun a4 =>
   ((
    if a4 = true then
     (K3w a0) >>= fun a5 =>
     ((
     if a5 = true then
     some (58)
     else
     some (40)
     ) : Option (Int)) >>= fun a6 =>
     (Qft s0 (wr (at1 + (a1.size : Int)))) >>= fun a7 =>
     if (a7 != 58) = true then
     some (.inl ())
     else
     (K4d (s0,(wr ((wr (at1 + (a1.size : Int))) + 1)),a6)) >>= fun (a8,a9) =>
     if (decide (a8 < (-1))) = true then
     some (.inr (.inr ((K06.mk a0 0 [] []),(-1))))
     else
     some (.inr (.inl ((wr (a9 - 1)),a8)))
    else
     some (.inr (.inl ((wr (at1 + (a1.size : Int))),0)))) : Option ((Unit) ⊕ ((Int × Int) ⊕ ((K06 × Int))))) >>= fun fl => match fl with
   | .inl () =>
    some (.inl ())
   | .inr (.inl (b1,b2)) =>
    (K3w a0) >>= fun b3 =>
    ((
     if b3 = true then
     (Qft s0 b1) >>= fun b4 =>
     if (b4 != 58) = true then
     some (.inl ())
     else
     (K51 (s0,(wr (b1 + 1)))) >>= fun (b5,b6) =>
     if (decide (b6 < 0)) = true then
     some (.inr (.inr ((K06.mk a0 b2 [] []),(-1))))
     else
     some (.inr (.inl (b6,b5)))
     else
     some (.inr (.inl (b1,[])))) : Option ((Unit) ⊕ ((Int × (List Int)) ⊕ ((K06 × Int))))) >>= fun fl => match fl with
    | .inl () =>
     some (.inl ())
    | .inr (.inl (b7,b8)) =>
     ((
     if (decide (b7 < (s0.size : Int))) = true then
     (Qft s0 b7) >>= fun b9 =>
     some ((b9 == 40))
     else
     some (false)
     ) : Option (Bool)) >>= fun c0 =>
     if c0 = true then
     some (.inr ((K06.mk a0 b2 b8 []),(wr (b7 + 1))))
     else
     some (.inl ())
    | .inr (.inr r) =>
     some (.inr r)
   | .inr (.inr r) =>
    some (.inr r)) : Option ((Unit) ⊕ ((K06 × Int)))) >>= fun fl => match fl with
  | .inl () =>
   K58 (s0,at1,(wr (a0 + 1)))
  | .inr r =>
   some (.inr r)
  else
  some (.inl ())
 partial_fixpoint
def K59 (p : ByteArray × Int × Int) (fl : (Unit) ⊕ ((K06 × Int))) : Prop :=
 match p with
 | (s0,at1,a0) => ∀ c : Ctx,c.nt = 95 → WpL Tryd.prog c (cl (cl (cr (cl (cr B33))))) (K57 c fl) (mkS [(0,.str s0),(1,I at1),(4,.ra 1 0),(6,I a0)] [(1,zT)])
theorem K5a : ∀ p r,K58 p = some r → K59 p r := by
 refine K58.partial_correctness K59 ?_
 rintro spec_l2Head_l0_f spec_l2Head_l0_ih ⟨s0,at1,a0⟩ r h
 intro c hc
 refine WpL.step (sN (K3f hc 2 [(0,.str s0),(1,I at1),(4,.ra 1 0),(6,I a0),(16,.bool (decide (a0 ≤ 12)))] (ic h (fun a1 h => ?_) fun a1 h => ?_)))
 ·refine sk (sN ?_)
  obtain ⟨fl,a2,h⟩ := Qel h
  refine flw (K56 c s0 at1 a0 fl) ?_ (fun hF => ?_)
  ·replace h := a2
   refine bk 1 ?_
   obtain ⟨a3,a4,h⟩ := Qel h
   refine K3h hc none [oN,oc (.str a3),oN] [16] [(7,.str a3)] (cq (K3s _ _ a4) K1n tv) (K3i hc 5 [] [(8,I (wr (at1 + (a3.size : Int))))] (sN (sN ?_)))
   obtain ⟨a5,a6,h⟩ := Qel h
   refine wi [7] [(36,.bool a5)] ?_ ?_
   ·replace h := a6
    rcases is h with ⟨a7,h⟩ | ⟨a7,h⟩
    ·obtain rfl := os h
     exact rj hc none (nN 5 (n_ 6 [oT])) (ar 6 (neF a7) (ai a7 tv))
    obtain ⟨a8,a9,h⟩ := Qel h
    obtain rfl := os h
    exact rj hc none (nN 8 [nQ ⟨[(33,.str a8)],[],[]⟩,oN,oN,oF]) (ar 4 a7 (ab (Qex (d := 33) a9) (Qew a9) (ar 3 a7 tv)))
   clear a6
   refine ic h (fun b1 h => ?_) fun b1 h => ?_
   ·obtain rfl := os h
    exact xt 1 (Qdx (Qdz (iv [])))
   refine sk (rsd hc none [oN,oN,nW 5,oN] [36] [(9,.ra 5 0)] [(1,zT),(5,.box [I a0,I 0,.nils,.nils])] tv (sN ?_))
   obtain ⟨b2,b3,h⟩ := Qel h
   refine rss hc none [oN,oc (.bool b2)] [(0,.str s0),(1,I at1),(4,.ra 1 0),(6,I a0),(8,I (wr (at1 + (a3.size : Int)))),(9,.ra 5 0),(40,.bool b2)] (cq (K3v _ _ b3) K1o tv) ?_
   obtain ⟨fl,b4,h⟩ := Qel h
   refine flw (K54 c s0 at1 a0 fl) ?_ (fun hF => ?_)
   ·replace h := b4
    refine ic h (fun b5 h => ?_) fun b5 h => ?_
    ·refine K3i hc 1 [40] [(10,.int .u8 40)] (sN ?_)
     obtain ⟨b6,b7,h⟩ := Qel h
     refine K3h hc none [oN,oc (.bool b6)] [] [(42,.bool b6)] (cq (K3y _ _ b7) K1p tv) ?_
     obtain ⟨b8,b9,h⟩ := Qel h
     refine wi [42,10] [(10,.int .u8 b8)] ?_ ?_
     ·replace h := b9
      refine ic h (fun c0 h => ?_) fun c0 h => ?_
      ·obtain rfl := os h
       exact rj0 hc 1
      obtain rfl := os h
      exact sk (iv [])
     clear b9
     refine sN ?_
     obtain ⟨c1,c2,h⟩ := Qel h
     refine K3h hc none [oN,oN,nQ ⟨[(45,.int .u8 c1)],[],[]⟩,oN] [] [(46,.bool (c1 != 58))] (ab (Qfv (d := 45) c2) (Qfu c2) tv) (ic h (fun c3 h => ?_) fun c3 h => ?_)
     ·obtain rfl := os h
      exact xt 1 (Qdx (iv []))
     refine sk ?_
     obtain ⟨⟨c4,c5⟩,c6,h⟩ := Qel h
     refine K3h hc none (nN 4 ([oc (.tup [I c4,I c5])]++nN 5 [])) [46,10,8] [(11,I c4),(12,I c5)] (cq (K4f _ _ c6) K1s tv) (sN (K3f hc 2 [(0,.str s0),(1,I at1),(4,.ra 1 0),(6,I a0),(9,.ra 5 0),(11,I c4),(12,I c5),(56,.bool (decide (c4 < (-1))))] (ic h (fun c7 h => ?_) fun c7 h => ?_)))
     ·obtain rfl := os h
      exact rs0 hc 3 [(4,.ra 1 0),(5,I (-1))] [(1,.box [I a0,I 0,.nils,.nils])] (rt (re [true,true]))
     obtain rfl := os h
     exact sk (K3g hc 3 [11,56] [] [(1,zT),(5,.box [I a0,I c4,.nils,.nils])] (rj0 hc 3))
    obtain rfl := os h
    exact sk (iv [])
   rcases fl with ⟨⟩ | ⟨c8,c9⟩ | r
   ·refine wf hF ?_
    obtain rfl := os h
    exact Qdx (Qdz im)
   ·refine wf hF (sN ?_)
    obtain ⟨d0,d1,h⟩ := Qel h
    refine rss hc none [oN,oc (.bool d0)] [(0,.str s0),(1,I at1),(4,.ra 1 0),(6,I a0),(8,I c8),(9,.ra 5 0),(63,.bool d0)] (cq (K3y _ _ d1) K1p tv) ?_
    obtain ⟨fl,d2,h⟩ := Qel h
    refine flw (K55 c s0 at1 a0 c9 fl) ?_ (fun hF => ?_)
    ·replace h := d2
     refine ic h (fun d3 h => ?_) fun d3 h => ?_
     ·refine sN ?_
      obtain ⟨d4,d5,h⟩ := Qel h
      refine K3h hc none [oN,oN,nQ ⟨[(66,.int .u8 d4)],[],[]⟩,oN] [63] [(67,.bool (d4 != 58))] (ab (Qfv (d := 66) d5) (Qfu d5) tv) (ic h (fun d6 h => ?_) fun d6 h => ?_)
      ·obtain rfl := os h
       exact xt 1 (Qdx (iv []))
      refine sk ?_
      obtain ⟨⟨d7,d8⟩,d9,h⟩ := Qel h
      refine rsd hc none ([oN,oN,oN,some (.call (.tup [oI d7,I d8]) [] 6)]++nN 5 []) [67,8] [(13,.rs 6),(14,I d8)] [(1,zT),(5,.box [I a0,I c9,.nils,.nils]),(6,rI d7)] (cq (K53 _ _ d9) K1y tv) (sN (K3i hc 2 [] [(76,.bool (decide (d8 < 0)))] (ic h (fun e0 h => ?_) fun e0 h => ?_)))
      ·obtain rfl := os h
       exact rs0 hc 3 [(4,.ra 1 0),(5,I (-1))] [(1,.box [I a0,I c9,.nils,.nils])] (rt (re [true,true]))
      obtain rfl := os h
      exact sk (K3g hc 3 [76,13] [] [(1,zT),(5,.box [I a0,I c9,.rs 6,.nils]),(6,rI d7)] (rj0 hc 2))
     obtain rfl := os h
     exact sk (Qe7.view (fun a w hv => SRx.renL [(6,7)] (SRx.nilBL 5 2 7 [I a0,I c9,.nils,.nils] hv (by kernel_rfl) (by kernel_rfl) (by kernel_rfl)) (by kernel_rfl) (by kernel_rfl) (by kernel_rfl)))
    rcases fl with ⟨⟩ | ⟨e1,e2⟩ | r
    ·refine wf hF ?_
     obtain rfl := os h
     exact Qdx (Qdz im)
    ·refine wf hF (sN ?_)
     obtain ⟨e3,e4,h⟩ := Qel h
     refine wi [] [(90,.bool e3)] ?_ ?_
     ·replace h := e4
      rcases is h with ⟨e5,h⟩ | ⟨e5,h⟩
      ·obtain ⟨e6,e7,h⟩ := Qel h
       obtain rfl := os h
       exact rj hc none (nN 7 [nQ ⟨[(88,.int .u8 e6)],[],[]⟩,oN,oT]) (ar 3 e5 (ab (Qfv (d := 88) e7) (Qfu e7) (ar 2 e5 tv)))
      obtain rfl := os h
      exact rj hc none (nN 5 (n_ 4 [oF])) (ar 4 (neT e5) (ai e5 tv))
     clear e4
     refine ic h (fun e8 h => ?_) fun e8 h => ?_
     ·obtain rfl := os h
      exact rs0 hc 5 [(4,.ra 1 0),(5,I (wr (e1 + 1)))] [(1,.box [I a0,I c9,.rs 6,.nils]),(6,rI e2)] (rt (re [true,true]))
     obtain rfl := os h
     exact sk (iv [])
    refine Wp.mono hF ?_
    rintro _ _ ⟨rfl,hfin⟩
    obtain rfl := os h
    exact ⟨rfl,hfin⟩
   refine Wp.mono hF ?_
   rintro _ _ ⟨rfl,hfin⟩
   obtain rfl := os h
   exact ⟨rfl,hfin⟩
  rcases fl with ⟨⟩ | r
  ·exact wf hF (ri0 hc 3 (Qe3 (spec_l2Head_l0_ih _ _ h c hc)))
  refine Wp.mono hF ?_
  rintro _ _ ⟨rfl,hfin⟩
  obtain rfl := os h
  exact ⟨rfl,hfin⟩
 obtain rfl := os h
 exact xt 0 (Qdx (Qe4 (iv [])))
def K5b (p : ByteArray × Int) : Option (K06 × Int) :=
 match p with
 | (s0,at1) =>
  (K58 (s0,at1,2)) >>= fun fl => match fl with
  | .inl () =>
   some ((K06.mk 0 0 [] []),(-1))
  | .inr r =>
   some r
def K5c (p : ByteArray × Int) (r : K06 × Int) : Prop :=
 match p with
 | (s0,at1) => Q7a Tryd.prog 33 [.str s0,I at1] (.tup [.agg [I r.1.fOp,I r.1.fN,.osl (List.map I r.1.fType),oM K0c r.1.fKids],I r.2]) []
theorem K5d : ∀ p r,K5b p = some r → K5c p r := by
 rintro ⟨s0,at1⟩ r h
 unfold K5b at h
 refine b0 Tryd.f33 B33 95 [(0,.str s0),(1,I at1)] fun c hc => (rsd hc none [nW 1,oN] [] [(4,.ra 1 0)] [(1,zT)] tv (sN (K3f hc 1 [(0,.str s0),(1,I at1),(4,.ra 1 0),(6,I 2)] (bk 0 ?_))))
 obtain ⟨fl,a0,h⟩ := Qel h
 have hL := K5a _ _ a0 c hc
 refine lp ?_
 rcases fl with ⟨⟩ | r
 ·refine wl hL ?_
  obtain rfl := os h
  exact Qdz (K3i hc 3 [] [(5,I (-1))] (rt (rq [true,true])))
 refine WpL.mono hL ?_
 rintro _ _ ⟨rfl,hfin⟩
 obtain rfl := os h
 exact ⟨.inl rfl,hfin⟩
def K5e (op0 : Int) : Option (Int) :=
 (K4j (op0,0,12)) >>= fun a0 =>
 if a0 = true then
 (idx [0,0,2,3,2,2,1,1,3,1,2,1,2] op0) >>= fun a1 =>
 some a1
 else
 some (-1)
def K5f (op0 : Int) (r : Int) : Prop :=
 Q7a Tryd.prog 34 [I op0] (I r) []
theorem K5g : ∀ p r,K5e p = some r → K5f p r := by
 rintro op0 r h
 unfold K5e at h
 refine b0 Tryd.f34 B34 10 [(0,I op0)] fun c hc => (K3g hc 1 [] [] [] (sN ?_))
 obtain ⟨a0,a1,h⟩ := Qel h
 refine rsd hc none [oN,oc (.bool a0),oN] [] [(5,.bool (!a0))] [] (cq (K4l _ _ a1) K1u tv) ?_
 rcases is h with ⟨a2,h⟩ | ⟨a2,h⟩
 ·refine cF (!a0) (nF a2) (sk ?_)
  obtain ⟨a3,a4,h⟩ := Qel h
  obtain rfl := os h
  exact rs hc none [mK 1,oN,oN,eL (I a3),oN] [(2,I a3)] [] (ab (Qeq (enc := I) a4) (ix a4).2 tv) (rt (rq [true]))
 refine cT (!a0) (nT a2) ?_
 obtain rfl := os h
 exact rs0 hc 1 [(2,I (-1))] [] (rt (rq [true]))
def K5h (c : Ctx) (a0 : K06) : (Int × (List K06) × Int) ⊕ ((K06 × Int × Int)) → Exit → Q0d → Prop
 | .inl (a1,a2,a3) => Qe7 c (.exit 0) (mkS [(2,I a1),(6,.ra 1 0),(11,.ra 4 0),(12,I a3)] [(1,zT),(2,rI a0.fType),(3,rM K0c a2),(4,.box [I a0.fOp,I a0.fN,.rs 2,.rs 3])])
 | .inr r => Qeg TIx Tryd.f18 [] (.tup [.agg [I r.1.fOp,I r.1.fN,.osl (List.map I r.1.fType),oM K0c r.1.fKids],I r.2.1,I r.2.2])
mutual
def K5i (p : ByteArray × Int × Int) : Option (K06 × Int × Int) :=
 match p with
 | (s0,at1,left2) =>
  ((
  if (decide (at1 ≥ (s0.size : Int))) = true then
  some (true)
  else
  some ((decide (left2 ≤ 0)))
  ) : Option (Bool)) >>= fun a0 =>
  if a0 = true then
  some ((K06.mk 0 0 [] []),(-1),0)
  else
  (Qft s0 at1) >>= fun a1 =>
  if (a1 == 120) = true then
  (K3n (s0,(wr (at1 + 1)))) >>= fun (a2,a3) =>
  if (decide (a2 < 0)) = true then
  some ((K06.mk 0 0 [] []),(-1),0)
  else
  some ((K06.mk 0 a2 [] []),a3,(wr (left2 - 1)))
  else
  ((
  (Qft s0 at1) >>= fun a4 =>
  if (decide (a4 ≥ 48)) = true then
   (Qft s0 at1) >>= fun a5 =>
   some ((decide (a5 ≤ 57)))
  else
   some (false)
  ) : Option (Bool)) >>= fun a6 =>
  if a6 = true then
  (Qft s0 at1) >>= fun a7 =>
  some ((K06.mk 1 (wr (IntKind.u8.wrap (a7 - 48))) [] []),(wr (at1 + 1)),(wr (left2 - 1)))
  else
  (K5b (s0,at1)) >>= fun (a8,a9) =>
  (K5j (s0,a8,(wr (left2 - 1)),a8.fKids,a9,0)) >>= fun fl => match fl with
  | .inl (b1,b2,b3) =>
   some ((K06.mk a8.fOp a8.fN a8.fType b2),b3,b1)
  | .inr r =>
   some r
 partial_fixpoint
def K5j (p : ByteArray × K06 × Int × (List K06) × Int × Int) : Option ((Int × (List K06) × Int) ⊕ ((K06 × Int × Int))) :=
 match p with
 | (s0,a0,a1,a2,a3,a4) =>
  ((
  if (decide (a3 ≥ 0)) = true then
  (K5e a0.fOp) >>= fun a5 =>
  some ((decide (a4 < a5)))
  else
  some (false)
  ) : Option (Bool)) >>= fun a6 =>
  if a6 = true then
  (K5i (s0,a3,a1)) >>= fun (a7,a8,a9) =>
  (K5e a0.fOp) >>= fun b1 =>
  ((
  if (a4 == (wr (b1 - 1))) = true then
  some (41)
  else
  some (44)
  ) : Option (Int)) >>= fun b2 =>
  ((
  if (decide (a8 < 0)) = true then
  some (true)
  else
  if (decide (a8 ≥ (s0.size : Int))) = true then
  some (true)
  else
  (Qft s0 a8) >>= fun b3 =>
  some ((b3 != b2))
  ) : Option (Bool)) >>= fun b4 =>
  if b4 = true then
  some (.inr ((K06.mk 0 0 [] []),(-1),0))
  else
  (Qey (a2.length + [a7].length) 64) >>= fun _ =>
  K5j (s0,a0,a9,(a2 ++ [a7]),(wr (a8 + 1)),(wr (a4 + 1)))
  else
  some (.inl (a1,a2,a3))
 partial_fixpoint
end
def K5k (p : ByteArray × Int × Int) (r : K06 × Int × Int) : Prop :=
 match p with
 | (s0,at1,left2) => Q7a Tryd.prog 18 [.str s0,I at1,I left2] (.tup [.agg [I r.1.fOp,I r.1.fN,.osl (List.map I r.1.fType),oM K0c r.1.fKids],I r.2.1,I r.2.2]) []
def K5l (p : ByteArray × K06 × Int × (List K06) × Int × Int) (fl : (Int × (List K06) × Int) ⊕ ((K06 × Int × Int))) : Prop :=
 match p with
 | (s0,a0,a1,a2,a3,a4) => ∀ c : Ctx,c.nt = 127 → WpL Tryd.prog c (cl (cl (cr (cl (cr (cr (cr (cr (cr (cr B18)))))))))) (K5h c a0 fl) (mkS [(0,.str s0),(2,I a1),(6,.ra 1 0),(11,.ra 4 0),(12,I a3),(13,I a4)] [(1,zT),(2,rI a0.fType),(3,rM K0c a2),(4,.box [I a0.fOp,I a0.fN,.rs 2,.rs 3])])
theorem K5m : (∀ p r,K5i p = some r → K5k p r) ∧ (∀ p r,K5j p = some r → K5l p r) := by
 refine K5i.mutual_partial_correctness K5k K5l ?_ ?_
 ·rintro spec_l2Parse_l0_f spec_l2Parse_l0_ih ⟨s0,at1,left2⟩ r h
  refine b0 Tryd.f18 B18 127 [(0,.str s0),(1,I at1),(2,I left2)] fun c hc => (rsd hc none [nW 1,oN,oN] [] [(6,.ra 1 0)] [(1,zT)] tv (sN (sN ?_)))
  obtain ⟨a0,a1,h⟩ := Qel h
  refine wi [] [(25,.bool a0)] ?_ ?_
  ·replace h := a1
   rcases is h with ⟨a2,h⟩ | ⟨a2,h⟩
   ·obtain rfl := os h
    exact rj hc none (nN 5 [o_,o_,oT]) (ar 2 (neF a2) (ai a2 tv))
   obtain rfl := os h
   exact rj hc none (nN 7 [oF]) (ar 3 a2 tv)
  clear a1
  refine ic h (fun a3 h => ?_) fun a3 h => ?_
  ·obtain rfl := os h
   exact K3f hc 4 [(6,.ra 1 0),(7,I (-1)),(8,I 0)] (rt (rq [true,true,true]))
  refine sk (sN ?_)
  obtain ⟨a4,a5,h⟩ := Qel h
  refine K3h hc none [oN,oN,nQ ⟨[(29,.int .u8 a4)],[],[]⟩,oN] [25] [(30,.bool (a4 == 120))] (ab (Qfv (d := 29) a5) (Qfu a5) tv) (ic h (fun a6 h => ?_) fun a6 h => ?_)
  ·obtain ⟨⟨a7,a8⟩,a9,h⟩ := Qel h
   refine K3h hc none ([oN,oN,oN,oc (.tup [I a7,I a8])]++nN 5 []) [30,0,1] [(9,I a7),(10,I a8)] (cq (K3p _ _ a9) K1m tv) (sN (K3i hc 2 [] [(39,.bool (decide (a7 < 0)))] (ic h (fun b1 h => ?_) fun b1 h => ?_)))
   ·obtain rfl := os h
    exact K3f hc 4 [(6,.ra 1 0),(7,I (-1)),(8,I 0)] (rt (rq [true,true,true]))
   obtain rfl := os h
   exact sk (rs0 hc 8 [(6,.ra 1 0),(7,I a8),(8,I (wr (left2 - 1)))] [(1,.box [I 0,I a7,.nils,.nils])] (rt (rq [true,true,true])))
  refine sk (sN (sN ?_))
  obtain ⟨b2,b3,h⟩ := Qel h
  refine wi [30] [(55,.bool b2)] ?_ ?_
  ·replace h := b3
   obtain ⟨b4,b5,h⟩ := Qel h
   rcases is h with ⟨b6,h⟩ | ⟨b6,h⟩
   ·obtain ⟨b7,b8,h⟩ := Qel h
    obtain rfl := os h
    exact rj hc none ([oN,oN,nQ ⟨[(48,.int .u8 b4)],[],[]⟩]++nN 4 [nQ ⟨[(53,.int .u8 b7)],[],[]⟩,oN,oT]) (ab (Qfv (d := 48) b5) (Qfu b5) (ar 3 b6 (ab (Qfv (d := 53) b8) (Qfu b8) (ar 2 b6 tv))))
   obtain rfl := os h
   exact rj hc none ([oN,oN,nQ ⟨[(48,.int .u8 b4)],[],[]⟩,oN,oN]++n_ 4 [oF]) (ab (Qfv (d := 48) b5) (Qfu b5) (ar 4 (neT b6) (ai b6 tv)))
  clear b3
  refine ic h (fun b9 h => ?_) fun b9 h => ?_
  ·obtain ⟨c0,c1,h⟩ := Qel h
   obtain rfl := os h
   exact rs hc none ([oN,oN,nQ ⟨[(58,.int .u8 c0)],[],[]⟩]++nN 10 []) [(6,.ra 1 0),(7,I (wr (at1 + 1))),(8,I (wr (left2 - 1)))] [(1,.box [I 1,I (wr (IntKind.u8.wrap (c0 - 48))),.nils,.nils])] (ab (Qfv (d := 58) c1) (Qfu c1) tv) (rt (rq [true,true,true]))
  refine sk ?_
  obtain ⟨⟨c2,c3⟩,c4,h⟩ := Qel h
  refine rsd hc none [oN,oN,some (.call (.tup [K13 c2,I c3]) [] 2),oN,oN,oN,nW 4,oN,oN] [55,1] [(11,.ra 4 0),(12,I c3)] [(1,zT),(2,rI c2.fType),(3,rM K0c c2.fKids),(4,.box [I c2.fOp,I c2.fN,.rs 2,.rs 3])] (cq (K5d _ _ c4) K1z tv) (K3f hc 3 [(0,.str s0),(2,I (wr (left2 - 1))),(6,.ra 1 0),(11,.ra 4 0),(12,I c3)] (sN (K3f hc 1 [(0,.str s0),(2,I (wr (left2 - 1))),(6,.ra 1 0),(11,.ra 4 0),(12,I c3),(13,I 0)] (bk 0 ?_))))
  obtain ⟨fl,c5,h⟩ := Qel h
  have hL := spec_l2Parse_l0_ih _ _ c5 c hc
  refine lp ?_
  rcases fl with ⟨c6,c7,c8⟩ | r
  ·refine wl hL ?_
   obtain rfl := os h
   exact Qdz (K3g hc 6 [2,11,12] [(7,I c8),(8,I c6)] [(1,.box [I c2.fOp,I c2.fN,.rs 2,.rs 3]),(2,rI c2.fType),(3,rM K0c c7)] (rt (rq [true,true,true])))
  refine WpL.mono hL ?_
  rintro _ _ ⟨rfl,hfin⟩
  obtain rfl := os h
  exact ⟨.inl rfl,hfin⟩
 ·rintro spec_l2Parse_f spec_l2Parse_l0_f spec_l2Parse_ih spec_l2Parse_l0_ih ⟨s0,c2,c9,d0,d1,d2⟩ r h
  intro c hc
  refine WpL.step (sN (sN ?_))
  obtain ⟨d3,d4,h⟩ := Qel h
  refine wi [] [(82,.bool d3)] ?_ ?_
  ·replace h := d4
   rcases is h with ⟨d5,h⟩ | ⟨d5,h⟩
   ·obtain ⟨d6,d7,h⟩ := Qel h
    obtain rfl := os h
    exact rj hc none (nN 6 [oc (I d6),oN,oT]) (ar 4 d5 (cq (K5g _ _ d7) K20 (ar 2 d5 tv)))
   obtain rfl := os h
   exact rj hc none ([oN,oN,oN]++n_ 5 [oF]) (ar 5 (neT d5) (ai d5 tv))
  clear d4
  refine ic h (fun d8 h => ?_) fun d8 h => ?_
  ·refine sk (sN (bk 1 ?_))
   obtain ⟨⟨d9,e0,e3⟩,e4,h⟩ := Qel h
   refine rsd hc none ([oN,oN,oN,some (.call (.tup [K13 d9,I e0,I e3]) [] 10)]++nN 4 [nW 12,oN,oN,oN]) [82,2,12] [(14,.ra 12 0),(15,I e0),(16,I e3)] [(1,zT),(2,rI c2.fType),(3,rM K0c d0),(4,.box [I c2.fOp,I c2.fN,.rs 2,.rs 3]),(10,rI d9.fType),(11,rM K0c d9.fKids),(12,.box [I d9.fOp,I d9.fN,.rs 10,.rs 11])] (cq (spec_l2Parse_ih _ _ e4) K21 tv) (K3i hc 1 [] [(17,.int .u8 44)] (sN ?_))
   obtain ⟨e5,e6,h⟩ := Qel h
   refine K3h hc none [oN,oN,oN,oc (I e5),oN,oN] [] [(98,.bool (d2 == (wr (e5 - 1))))] (cq (K5g _ _ e6) K20 tv) ?_
   obtain ⟨e7,e8,h⟩ := Qel h
   refine wi [98,17] [(17,.int .u8 e7)] ?_ ?_
   ·replace h := e8
    refine ic h (fun e9 h => ?_) fun e9 h => ?_
    ·obtain rfl := os h
     exact rj0 hc 1
    obtain rfl := os h
    exact sk (iv [])
   clear e8
   refine sN (sN ?_)
   obtain ⟨f0,f1,h⟩ := Qel h
   refine Wp.into (x := .normal) (mkS [(0,.str s0),(6,.ra 1 0),(11,.ra 4 0),(13,I d2),(14,.ra 12 0),(15,I e0),(16,I e3),(113,.bool f0)] [(1,zT),(2,rI c2.fType),(3,rM K0c d0),(4,.box [I c2.fOp,I c2.fN,.rs 2,.rs 3]),(10,rI d9.fType),(11,rM K0c d9.fKids),(12,.box [I d9.fOp,I d9.fN,.rs 10,.rs 11])]) ?_ ?_
   ·replace h := f1
    rcases is h with ⟨f2,h⟩ | ⟨f2,h⟩
    ·obtain rfl := os h
     exact rj hc none ([oN,oN,oN]++n_ 4 ([oT,oN]++n_ 5 [oT])) (ar 4 (neF f2) (ai f2 (ar 5 nf (ai tt tv))))
    rcases is h with ⟨f3,h⟩ | ⟨f3,h⟩
    ·obtain rfl := os h
     exact rj hc none (nN 7 ([oF,oN]++n_ 5 [oT])) (ar 5 f2 (ar 5 (neF f3) (ai f3 tv)))
    obtain ⟨f4,f5,h⟩ := Qel h
    obtain rfl := os h
    exact rj hc none (nN 7 [oF,oN,oN,oN,nQ ⟨[(110,.int .u8 f4)],[],[]⟩,oN,oN,oF]) (ar 5 f2 (ar 3 f3 (ab (Qfv (d := 110) f5) (Qfu f5) (ar 3 f3 tv))))
   clear f1
   refine ic h (fun f6 h => ?_) fun f6 h => ?_
   ·obtain rfl := os h
    exact rs0 hc 4 [(6,.ra 1 0),(7,I (-1)),(8,I 0)] [(1,zT)] (rt (re [true,true,true]))
   refine sk ?_
   obtain ⟨_,f7,h⟩ := Qel h
   exact rsd hc none [oN,oN,oN,some (.eqv (.mk 13 true) ⟨[(118,.rs 13)],[(13,some (.arr (List.map K0c [d9]))),(10,none),(11,none)],[13]⟩),some (.eqv (.mk 14 true) ⟨[(119,.rs 14)],[(14,some (rM K0c (d0 ++ [d9]))),(3,none),(13,none)],[14]⟩),oN,oN] [14,113] [] [(1,zT),(2,rI c2.fType),(4,.box [I c2.fOp,I c2.fN,.rs 2,.rs 14]),(14,rM K0c (d0 ++ [d9]))] (ac (congrArg (fun z => (⟨[(118,.rs 13)],[(13,some (.arr z)),(10,none),(11,none)],[13]⟩ : Wr)) ((Qfs (K0i d9) Qfr) : [AV.agg [I d9.fOp,I d9.fN,oI d9.fType,oM K0c d9.fKids]] = List.map K0c [d9])) (congrArg (fun z => (⟨[(119,.rs 14)],[(14,some (.arr z)),(3,none),(13,none)],[14]⟩ : Wr)) ((List.map_append).symm : (List.map K0c d0) ++ (List.map K0c [d9]) = List.map K0c (d0 ++ [d9]))) (Qez (enc1 := K0c) (enc2 := K0c) (e1 := d0) (e2 := [d9]) (sz := 4) K0m K0m f7) tv) (K3i hc 3 [15] [(12,I (wr (e0 + 1)))] (K3e hc 2 [16] [(2,I e3)] (K3b hc 3 [(0,.str s0),(2,I e3),(6,.ra 1 0),(11,.ra 4 0),(12,I (wr (e0 + 1))),(13,I (wr (d2 + 1)))] (Qe3 (WpL.view (fun a w hv => SRx.renL [(3,14)] hv (by kernel_rfl) (by kernel_rfl) (by kernel_rfl)) (spec_l2Parse_l0_ih _ _ h c hc))))))
  obtain rfl := os h
  exact xt 0 (Qdx (Qe4 (iv [])))
theorem K5n : ∀ p r,K5i p = some r → K5k p r := K5m.1
theorem K5o : ∀ p r,K5j p = some r → K5l p r := K5m.2
def K5p (c : Ctx) : Int → Exit → Q0d → Prop
 | a0 => Qe7 c (.exit 0) (mkS [(1,I a0)] [])
mutual
def K5q (p : K06 × Int) : Option (Int) :=
 match p with
 | (t0,left1) =>
  (K5r (t0,(wr (left1 - 1)),0)) >>= fun a0 =>
  some a0
 partial_fixpoint
def K5r (p : K06 × Int × Int) : Option (Int) :=
 match p with
 | (t0,a0,a1) =>
  ((
  if (decide (a1 < (t0.fKids.length : Int))) = true then
  some ((decide (a0 ≥ 0)))
  else
  some (false)
  ) : Option (Bool)) >>= fun a2 =>
  if a2 = true then
  (idx t0.fKids a1) >>= fun a3 =>
  (K5q (a3,a0)) >>= fun a4 =>
  K5r (t0,a4,(wr (a1 + 1)))
  else
  some (a0)
 partial_fixpoint
end
def K5s (p : K06 × Int) (r : Int) : Prop :=
 match p with
 | (t0,left1) => Q7a Tryd.prog 51 [K11 t0,I left1] (I r) []
def K5t (p : K06 × Int × Int) (fl : Int) : Prop :=
 match p with
 | (t0,a0,a1) => ∀ c : Ctx,c.nt = 27 → WpL Tryd.prog c (cl (cl (cr (cl (cr (cr B51)))))) (K5p c fl) (mkS [(1,I a0),(2,.ra 1 0),(5,I a1)] [(1,K10 t0)])
theorem K5u : (∀ p r,K5q p = some r → K5s p r) ∧ (∀ p r,K5r p = some r → K5t p r) := by
 refine K5q.mutual_partial_correctness K5s K5t ?_ ?_
 ·rintro spec_l2Left_l0_f spec_l2Left_l0_ih ⟨t0,left1⟩ r h
  refine b0 Tryd.f51 B51 27 [(0,K11 t0),(1,I left1)] fun c hc => (rsd hc none [nW 1,oN] [0] [(2,.ra 1 0)] [(1,K10 t0)] tv (K3i hc 3 [1] [(1,I (wr (left1 - 1)))] (sN (K3f hc 1 [(1,I (wr (left1 - 1))),(2,.ra 1 0),(5,I 0)] (bk 0 ?_)))))
  obtain ⟨a0,a1,h⟩ := Qel h
  have hL := spec_l2Left_l0_ih _ _ a1 c hc
  refine lp (wl hL ?_)
  obtain rfl := os h
  exact Qdz (rs0 hc 2 [(4,I a0)] [] (rt (rq [true])))
 ·rintro spec_l2Left_f spec_l2Left_l0_f spec_l2Left_ih spec_l2Left_l0_ih ⟨t0,a2,a3⟩ r h
  intro c hc
  refine WpL.step (sN (sN ?_))
  obtain ⟨a4,a5,h⟩ := Qel h
  refine wi [] [(16,.bool a4)] ?_ ?_
  ·replace h := a5
   rcases is h with ⟨a6,h⟩ | ⟨a6,h⟩
   ·obtain rfl := os h
    exact rj hc none ([oN,oN,oN,nQ ⟨[(11,I (t0.fKids.length : Int))],[],[]⟩]++nN 4 [oT]) (ai (Qer (d := 11) K09 t0.fKids) (ar 3 a6 tv))
   obtain rfl := os h
   exact rj hc none [oN,oN,oN,nQ ⟨[(11,I (t0.fKids.length : Int))],[],[]⟩,oN,oN,o_,o_,oF] (ai (Qer (d := 11) K09 t0.fKids) (ar 2 (neT a6) (ai a6 tv)))
  clear a5
  refine ic h (fun a7 h => ?_) fun a7 h => ?_
  ·refine sk (sN (bk 1 ?_))
   obtain ⟨a8,a9,b1,b2,h⟩ := bq2 h
   exact K3d hc none [oN,oN,oN,eL (K11 a8),oN,oN,oc (I b1),oN] [16,1] [(1,I b1)] (ai (Qep a9 (K0g a8)) (cq (spec_l2Left_ih _ _ b2) K22 tv)) (ri0 hc 3 (Qe3 (spec_l2Left_l0_ih _ _ h c hc)))
  obtain rfl := os h
  exact xt 0 (Qdx (Qe4 (iv [])))
theorem K5v : ∀ p r,K5q p = some r → K5s p r := K5u.1
theorem K5w : ∀ p r,K5r p = some r → K5t p r := K5u.2
def K5x (c : Ctx) : (Unit) ⊕ (Int) → Exit → Q0d → Prop
 | .inl _ => Qe7 c (.exit 0) (mkS [] [])
 | .inr r => Qeg TIx Tryd.f69 [] (I r)
def K5y (p : (List Int) × Int × Int) : Option ((Unit) ⊕ (Int)) :=
 match p with
 | (ty0,a0,a1) =>
  if (decide (a1 < (ty0.length : Int))) = true then
  (idx ty0 a1) >>= fun a2 =>
  (K4s a2) >>= fun a3 =>
  if (decide (a3 < 0)) = true then
  some (.inr (-1))
  else
  if ((wr ((wr (a0 - 1)) + a3)) == 0) = true then
  some (.inr (wr (a1 + 1)))
  else
  K5y (ty0,(wr ((wr (a0 - 1)) + a3)),(wr (a1 + 1)))
  else
  some (.inl ())
 partial_fixpoint
def K5z (p : (List Int) × Int × Int) (fl : (Unit) ⊕ (Int)) : Prop :=
 match p with
 | (ty0,a0,a1) => ∀ c : Ctx,c.nt = 30 → WpL Tryd.prog c (cl (cl (cr (cl (cr (cr B69)))))) (K5x c fl) (mkS [(0,sI ty0),(5,I a0),(6,I a1)] [])
theorem K60 : ∀ p r,K5y p = some r → K5z p r := by
 refine K5y.partial_correctness K5z ?_
 rintro spec_l2End_l0_f spec_l2End_l0_ih ⟨ty0,a0,a1⟩ r h
 intro c hc
 refine WpL.step (sN (rsd hc none [oN,oN,nQ ⟨[(11,I (ty0.length : Int))],[],[]⟩,oN] [] [(12,.bool (decide (a1 < (ty0.length : Int))))] [] (ai (Qer (d := 11) I ty0) tv) (ic h (fun a2 h => ?_) fun a2 h => ?_)))
 ·refine sk (sN (bk 1 ?_))
  obtain ⟨a3,a4,a5,a6,h⟩ := bq2 h
  refine rsd hc none [oN,oN,eL (I a3),oN,oc (I a5),oN] [12] [(7,I a5)] [] (ai (ix a4) (cq (K4u _ _ a6) K1x tv)) (sN (K3g hc 2 [] [(21,.bool (decide (a5 < 0)))] [] (ic h (fun a7 h => ?_) fun a7 h => ?_)))
  ·obtain rfl := os h
   exact rs0 hc 1 [(4,I (-1))] [] (rt (re [true]))
  refine sk (K3g hc 5 [21,7,5] [(5,I (wr ((wr (a0 - 1)) + a5)))] [] (K3g hc 2 [] [(27,.bool ((wr ((wr (a0 - 1)) + a5)) == 0))] [] (ic h (fun a8 h => ?_) fun a8 h => ?_)))
  ·obtain rfl := os h
   exact rs0 hc 3 [(4,I (wr (a1 + 1)))] [] (rt (re [true]))
  exact sk (ri0 hc 3 (Qe3 (spec_l2End_l0_ih _ _ h c hc)))
 obtain rfl := os h
 exact xt 0 (Qdx (Qe4 (iv [])))
def K61 (p : (List Int) × Int) : Option (Int) :=
 match p with
 | (ty0,at1) =>
  (K5y (ty0,1,at1)) >>= fun fl => match fl with
  | .inl () =>
   some (-1)
  | .inr r =>
   some r
def K62 (p : (List Int) × Int) (r : Int) : Prop :=
 match p with
 | (ty0,at1) => Q7a Tryd.prog 69 [sI ty0,I at1] (I r) []
theorem K63 : ∀ p r,K61 p = some r → K62 p r := by
 rintro ⟨ty0,at1⟩ r h
 unfold K61 at h
 refine b0 Tryd.f69 B69 30 [(0,sI ty0),(1,I at1)] fun c hc => (K3g hc 1 [] [] [] (K3g hc 1 [] [(5,I 1)] [] (sN (rs0 hc 2 [(0,sI ty0),(5,I 1),(6,I at1)] [] (bk 0 ?_)))))
 obtain ⟨fl,a0,h⟩ := Qel h
 have hL := K60 _ _ a0 c hc
 refine lp ?_
 rcases fl with ⟨⟩ | r
 ·refine wl hL ?_
  obtain rfl := os h
  exact Qdz (rs0 hc 1 [(4,I (-1))] [] (rt (rq [true])))
 refine WpL.mono hL ?_
 rintro _ _ ⟨rfl,hfin⟩
 obtain rfl := os h
 exact ⟨.inl rfl,hfin⟩
def K64 (ty0 : (List Int)) : Option (Bool) :=
 ((
 if (decide ((ty0.length : Int) ≤ 40)) = true then
 (K61 (ty0,0)) >>= fun a0 =>
 if (a0 == (ty0.length : Int)) = true then
 some ((decide ((ty0.length : Int) > 0)))
 else
 some (false)
 else
 some (false)
 ) : Option (Bool)) >>= fun a1 =>
 some a1
def K65 (ty0 : (List Int)) (r : Bool) : Prop :=
 Q7a Tryd.prog 62 [sI ty0] (.bool r) []
theorem K66 : ∀ p r,K64 p = some r → K65 p r := by
 rintro ty0 r h
 unfold K64 at h
 refine b0 Tryd.f62 B62 18 [(0,sI ty0)] fun c hc => (K3g hc 1 [] [] [] (sN ?_))
 obtain ⟨a0,a1,h⟩ := Qel h
 refine Wp.into (x := .normal) (mkS [(2,.bool a0)] []) ?_ ?_
 ·replace h := a1
  rcases is h with ⟨a2,h⟩ | ⟨a2,h⟩
  ·obtain ⟨a3,a4,h⟩ := Qel h
   rcases is h with ⟨a5,h⟩ | ⟨a5,h⟩
   ·obtain rfl := os h
    exact rj hc none [oN,nQ ⟨[(4,I (ty0.length : Int))],[],[]⟩,oN,oN,oN,oc (I a3),oN,nQ ⟨[(10,I (ty0.length : Int))],[],[]⟩,oN,oT,oN,oN,nQ ⟨[(15,I (ty0.length : Int))],[],[]⟩,oN,oT,oN] (ai (Qer (d := 4) I ty0) (ar 2 a2 (cq (K63 _ _ a4) K23 (ar 2 a2 (ai (Qer (d := 10) I ty0) (ar 2 a2 (ar 2 a5 (ai (Qer (d := 15) I ty0) (ar 2 a5 tv)))))))))
   obtain rfl := os h
   exact rj hc none [oN,nQ ⟨[(4,I (ty0.length : Int))],[],[]⟩,oN,oN,oN,oc (I a3),oN,nQ ⟨[(10,I (ty0.length : Int))],[],[]⟩,oN,oT,oN,o_,o_,o_,oF,oN] (ai (Qer (d := 4) I ty0) (ar 2 a2 (cq (K63 _ _ a4) K23 (ar 2 a2 (ai (Qer (d := 10) I ty0) (ar 2 a2 (ar 3 (neT a5) (ai a5 tv))))))))
  obtain rfl := os h
  exact rj hc none ([oN,nQ ⟨[(4,I (ty0.length : Int))],[],[]⟩,oN,oN]++n_ 5 [oF,oN,o_,o_,o_,oF,oN]) (ai (Qer (d := 4) I ty0) (ar 5 (neT a2) (ai a2 (ar 3 (neT fF) (ai fF tv)))))
 clear a1
 obtain rfl := os h
 exact rt (rq [true])
def K67 (c0 : Int) : Option (Int) :=
 if (decide (c0 ≥ 35)) = true then
 some (-1)
 else
 if (decide (c0 ≥ 19)) = true then
 some (wr (c0 - 19))
 else
 some (wr (c0 - 3))
def K68 (c0 : Int) (r : Int) : Prop :=
 Q7a Tryd.prog 63 [I c0] (I r) []
theorem K69 : ∀ p r,K67 p = some r → K68 p r := by
 rintro c0 r h
 unfold K67 at h
 refine b0 Tryd.f63 B63 13 [(0,I c0)] fun c hc => (K3g hc 1 [] [] [] (sN (bk 0 (K3g hc 3 [] [(3,.bool (decide (c0 ≥ 35)))] [] (ic h (fun a0 h => ?_) fun a0 h => ?_)))))
 ·obtain rfl := os h
  exact rs0 hc 1 [(2,I (-1))] [] (rt (rq [true]))
 refine K3g hc 3 [3] [(6,.bool (decide (c0 ≥ 19)))] [] (ic h (fun a1 h => ?_) fun a1 h => ?_)
 ·obtain rfl := os h
  exact rs0 hc 3 [(2,I (wr (c0 - 19)))] [] (rt (rq [true]))
 obtain rfl := os h
 exact sk (rs0 hc 3 [(2,I (wr (c0 - 3)))] [] (rt (rq [true])))
def K6a (c : Ctx) (ty0 : List Int) (size1 : Int) (closed2 : Bool) (a0 : Int) : (Unit) ⊕ (Bool) → Exit → Q0d → Prop
 | .inl _ => Qe7 c .normal (mkS [(0,sI ty0),(1,I size1),(2,.bool closed2),(7,I a0)] [])
 | .inr r => Qeg TIx Tryd.f68 [] (.bool r)
def K6b (c : Ctx) : (Unit) ⊕ (Bool) → Exit → Q0d → Prop
 | .inl _ => Qe7 c (.exit 0) (mkS [] [])
 | .inr r => Qeg TIx Tryd.f68 [] (.bool r)
def K6c (p : (List Int) × Int × Bool × Int) : Option ((Unit) ⊕ (Bool)) :=
 match p with
 | (ty0,size1,closed2,a0) =>
  if (decide (a0 < (ty0.length : Int))) = true then
  ((
   (idx ty0 a0) >>= fun a1 =>
   (K4s a1) >>= fun a2 =>
   if (decide (a2 > 0)) = true then
   (idx ty0 a0) >>= fun a3 =>
   some ((decide (a3 > 2)))
   else
   some (false)
  ) : Option (Bool)) >>= fun a4 =>
  ((
   if a4 = true then
   (idx ty0 a0) >>= fun a5 =>
   (K67 a5) >>= fun a6 =>
   ((
   if (decide (a6 ≥ size1)) = true then
   some (true)
   else
   if closed2 = true then
   some ((decide (a6 < 0)))
   else
   some (false)
   ) : Option (Bool)) >>= fun a7 =>
   if a7 = true then
   some (.inr false)
   else
   some (.inl ())
   else
   some (.inl ())) : Option ((Unit) ⊕ (Bool))) >>= fun fl => match fl with
  | .inl () =>
   K6c (ty0,size1,closed2,(wr (a0 + 1)))
  | .inr r =>
   some (.inr r)
  else
  some (.inl ())
 partial_fixpoint
def K6d (p : (List Int) × Int × Bool × Int) (fl : (Unit) ⊕ (Bool)) : Prop :=
 match p with
 | (ty0,size1,closed2,a0) => ∀ c : Ctx,c.nt = 43 → WpL Tryd.prog c (cl (cl (cr (cl (cr B68))))) (K6b c fl) (mkS [(0,sI ty0),(1,I size1),(2,.bool closed2),(7,I a0)] [])
theorem K6e : ∀ p r,K6c p = some r → K6d p r := by
 refine K6c.partial_correctness K6d ?_
 rintro spec_l2Graded_l0_f spec_l2Graded_l0_ih ⟨ty0,size1,closed2,a0⟩ r h
 intro c hc
 refine WpL.step (sN (rsd hc none [oN,oN,nQ ⟨[(11,I (ty0.length : Int))],[],[]⟩,oN] [] [(12,.bool (decide (a0 < (ty0.length : Int))))] [] (ai (Qer (d := 11) I ty0) tv) (ic h (fun a1 h => ?_) fun a1 h => ?_)))
 ·refine sk (sN (bk 1 (sN ?_)))
  obtain ⟨a2,a3,h⟩ := Qel h
  refine Wp.into (x := .normal) (mkS [(0,sI ty0),(1,I size1),(2,.bool closed2),(7,I a0),(27,.bool a2)] []) ?_ ?_
  ·replace h := a3
   obtain ⟨a4,a5,a6,a7,h⟩ := bq2 h
   rcases is h with ⟨a8,h⟩ | ⟨a8,h⟩
   ·obtain ⟨a9,b1,h⟩ := Qel h
    obtain rfl := os h
    exact rj hc none ([oN,oN,eL (I a4),oN,oc (I a6)]++nN 4 [eL (I a9),oN,oN,oT]) (ai (ix a5) (cq (K4u _ _ a7) K1x (ar 3 a8 (ai (ix b1) (ar 3 a8 tv)))))
   obtain rfl := os h
   exact rj hc none ([oN,oN,eL (I a4),oN,oc (I a6),oN,oN]++n_ 5 [oF]) (ai (ix a5) (cq (K4u _ _ a7) K1x (ar 5 (neT a8) (ai a8 tv))))
  clear a3
  obtain ⟨fl,b2,h⟩ := Qel h
  refine flw (K6a c ty0 size1 closed2 a0 fl) ?_ (fun hF => ?_)
  ·replace h := b2
   refine ic h (fun b3 h => ?_) fun b3 h => ?_
   ·obtain ⟨b4,b5,b6,b7,h⟩ := bq2 h
    refine rsd hc none [oN,oN,eL (I b4),oN,oc (I b6),oN] [27] [(8,I b6)] [] (ai (ix b5) (cq (K69 _ _ b7) K25 tv)) (sN ?_)
    obtain ⟨b8,b9,h⟩ := Qel h
    refine wi [8] [(42,.bool b8)] ?_ ?_
    ·replace h := b9
     rcases is h with ⟨c0,h⟩ | ⟨c0,h⟩
     ·obtain rfl := os h
      exact rj hc none (nN 4 (n_ 5 [oT])) (ar 3 (neF c0) (ai c0 tv))
     rcases is h with ⟨c1,h⟩ | ⟨c1,h⟩
     ·obtain rfl := os h
      exact rj hc none (nN 8 [oT,oF]) (ar 2 c0 (ar 2 c1 (ac c0 c1 c0 tv)))
     obtain rfl := os h
     exact rj hc none (nN 6 [o_,o_,oF,oF]) (ar 2 c0 (ar 2 (neT c1) (ac c0 c1 c0 tv)))
    clear b9
    refine ic h (fun c2 h => ?_) fun c2 h => ?_
    ·obtain rfl := os h
     exact rs0 hc 1 [(6,.bool false)] [] (rt (re [true]))
    obtain rfl := os h
    exact sk (iv [])
   obtain rfl := os h
   exact sk (iv [])
  rcases fl with ⟨⟩ | r
  ·exact wf hF (ri0 hc 3 (Qe3 (spec_l2Graded_l0_ih _ _ h c hc)))
  refine Wp.mono hF ?_
  rintro _ _ ⟨rfl,hfin⟩
  obtain rfl := os h
  exact ⟨rfl,hfin⟩
 obtain rfl := os h
 exact xt 0 (Qdx (Qe4 (iv [])))
def K6f (p : (List Int) × Int × Bool) : Option (Bool) :=
 match p with
 | (ty0,size1,closed2) =>
  (K6c (ty0,size1,closed2,0)) >>= fun fl => match fl with
  | .inl () =>
   some true
  | .inr r =>
   some r
def K6g (p : (List Int) × Int × Bool) (r : Bool) : Prop :=
 match p with
 | (ty0,size1,closed2) => Q7a Tryd.prog 68 [sI ty0,I size1,.bool closed2] (.bool r) []
theorem K6h : ∀ p r,K6f p = some r → K6g p r := by
 rintro ⟨ty0,size1,closed2⟩ r h
 unfold K6f at h
 refine b0 Tryd.f68 B68 43 [(0,sI ty0),(1,I size1),(2,.bool closed2)] fun c hc => (K3g hc 1 [] [] [] (sN (rs0 hc 1 [(0,sI ty0),(1,I size1),(2,.bool closed2),(7,I 0)] [] (bk 0 ?_))))
 obtain ⟨fl,a0,h⟩ := Qel h
 have hL := K6e _ _ a0 c hc
 refine lp ?_
 rcases fl with ⟨⟩ | r
 ·refine wl hL ?_
  obtain rfl := os h
  exact Qdz (rs0 hc 1 [(6,.bool true)] [] (rt (rq [true])))
 refine WpL.mono hL ?_
 rintro _ _ ⟨rfl,hfin⟩
 obtain rfl := os h
 exact ⟨.inl rfl,hfin⟩
def K6i (c : Ctx) (t0 : K06) (size2 : Int) (closed3 : Bool) : (Unit) ⊕ (Bool) → Exit → Q0d → Prop
 | .inl _ => Qe7 c .normal (mkS [(2,I size2),(3,.bool closed3),(4,.ra 1 0)] [(1,K10 t0)])
 | .inr r => Qeg TIx Tryd.f60 [] (.bool r)
def K6j (c : Ctx) (t0 : K06) (size2 : Int) (closed3 : Bool) : (Unit) ⊕ (Bool) → Exit → Q0d → Prop
 | .inl _ => Qe7 c .normal (mkS [(2,I size2),(3,.bool closed3),(4,.ra 1 0)] [(1,K10 t0)])
 | .inr r => Qeg TIx Tryd.f60 [] (.bool r)
def K6k (c : Ctx) (t0 : K06) (size2 : Int) (closed3 : Bool) : (Unit) ⊕ (Bool) → Exit → Q0d → Prop
 | .inl _ => Qe7 c .normal (mkS [(2,I size2),(3,.bool closed3),(4,.ra 1 0)] [(1,K10 t0)])
 | .inr r => Qeg TIx Tryd.f60 [] (.bool r)
def K6l : Option (List (List Nat)) := rx [[0],[1],[2],[3],[4],[5],[6],[7],[8],[5],[5,9],[5,9,10],[5,9,10,11],[13],[5],[15],[16],[17]]
def K6m (p : K06 × Int × Int × Bool) : Option (Bool) :=
 match p with
 | (t0,n1,size2,closed3) =>
  (K5e t0.fOp) >>= fun a0 =>
  if ((t0.fKids.length : Int) != a0) = true then
  some false
  else
  ((
   if (t0.fOp == 0) = true then
   (K4j (t0.fN,0,(wr (n1 - 1)))) >>= fun a1 =>
   if a1 = true then
    some (.inl ())
   else
    some (.inr false)
   else
   ((
    if (t0.fOp == 1) = true then
    (K4j (t0.fN,0,2)) >>= fun a2 =>
    if a2 = true then
     some (.inl ())
    else
     some (.inr false)
    else
    (K3t t0.fOp) >>= fun a3 =>
    ((
     if a3 = true then
     ((
     if (decide (t0.fN ≥ size2)) = true then
     some (true)
     else
     if (decide (t0.fN < (-1))) = true then
     some (true)
     else
     if closed3 = true then
     some ((decide (t0.fN < 0)))
     else
     some (false)
     ) : Option (Bool)) >>= fun a4 =>
     if a4 = true then
     some (.inr false)
     else
     some (.inl ())
     else
     if (t0.fN != 0) = true then
     some (.inr false)
     else
     some (.inl ())) : Option ((Unit) ⊕ (Bool))) >>= fun fl => match fl with
    | .inl () =>
     some (.inl ())
    | .inr r =>
     some (.inr r)) : Option ((Unit) ⊕ (Bool))) >>= fun fl => match fl with
   | .inl () =>
    some (.inl ())
   | .inr r =>
    some (.inr r)) : Option ((Unit) ⊕ (Bool))) >>= fun fl => match fl with
  | .inl () =>
   (K3w t0.fOp) >>= fun a5 =>
   if a5 = true then
   ((
    (K64 t0.fType) >>= fun a6 =>
    if a6 = true then
    (K6f (t0.fType,size2,closed3)) >>= fun a7 =>
    some (a7)
    else
    some (false)
   ) : Option (Bool)) >>= fun a8 =>
   some a8
   else
   some ((t0.fType.length : Int) == 0)
  | .inr r =>
   some r
def K6n (p : K06 × Int × Int × Bool) (r : Bool) : Prop :=
 match p with
 | (t0,n1,size2,closed3) => Q7a Tryd.prog 60 [K11 t0,I n1,I size2,.bool closed3] (.bool r) []
theorem K6o : ∀ p r,K6m p = some r → K6n p r := by
 rintro ⟨t0,n1,size2,closed3⟩ r h
 unfold K6m at h
 refine b0 Tryd.f60 B60 76 [(0,K11 t0),(1,I n1),(2,I size2),(3,.bool closed3)] fun c hc => (rsd hc none [nW 1,oN] [0] [(4,.ra 1 0)] [(1,K10 t0)] tv (sN ?_))
 obtain ⟨a0,a1,h⟩ := Qel h
 refine K3h hc (rx [[0],[1],[2],[0],[0,3],[0,3,4],[6]]) [oN,oN,nQ ⟨[(11,I (t0.fKids.length : Int))],[],[]⟩,oN,oN,oc (I a0),oN] [] [(15,.bool ((t0.fKids.length : Int) != a0))] (ai (Qer (d := 11) K09 t0.fKids) (cq (K5g _ _ a1) K20 tv)) (ic h (fun a2 h => ?_) fun a2 h => ?_)
 ·obtain rfl := os h
  exact rs0 hc 1 [(8,.bool false)] [] (rt (rq [true]))
 refine sk (sN (bk 0 (K3f hc 4 [(1,I n1),(2,I size2),(3,.bool closed3),(4,.ra 1 0),(19,.bool (t0.fOp == 0))] ?_)))
 obtain ⟨fl,a3,h⟩ := Qel h
 refine flw (K6k c t0 size2 closed3 fl) ?_ (fun hF => ?_)
 ·replace h := a3
  refine ic h (fun a4 h => ?_) fun a4 h => ?_
  ·obtain ⟨a5,a6,h⟩ := Qel h
   refine K3h hc none (nN 4 [oc (.bool a5),oN]) [1,19] [(28,.bool (!a5))] (cq (K4l _ _ a6) K1u tv) ?_
   rcases is h with ⟨a7,h⟩ | ⟨a7,h⟩
   ·refine cF (!a5) (nF a7) ?_
    obtain rfl := os h
    exact sk (iv [])
   refine cT (!a5) (nT a7) ?_
   obtain rfl := os h
   exact rs0 hc 1 [(8,.bool false)] [] (rt (re [true]))
  refine K3f hc 4 [(2,I size2),(3,.bool closed3),(4,.ra 1 0),(29,.bool (t0.fOp == 1))] ?_
  obtain ⟨fl,a8,h⟩ := Qel h
  refine flw (K6j c t0 size2 closed3 fl) ?_ (fun hF => ?_)
  ·replace h := a8
   refine ic h (fun a9 h => ?_) fun a9 h => ?_
   ·obtain ⟨b1,b2,h⟩ := Qel h
    refine K3h hc none [oN,oN,oc (.bool b1),oN] [29] [(36,.bool (!b1))] (cq (K4l _ _ b2) K1u tv) ?_
    rcases is h with ⟨b3,h⟩ | ⟨b3,h⟩
    ·refine cF (!b1) (nF b3) ?_
     obtain rfl := os h
     exact sk (iv [])
    refine cT (!b1) (nT b3) ?_
    obtain rfl := os h
    exact rs0 hc 1 [(8,.bool false)] [] (rt (re [true]))
   obtain ⟨b4,b5,h⟩ := Qel h
   refine rss hc none [oN,oN,oc (.bool b4),oN] [(2,I size2),(3,.bool closed3),(4,.ra 1 0),(37,.bool b4)] (cq (K3v _ _ b5) K1o tv) ?_
   obtain ⟨fl,b6,h⟩ := Qel h
   refine flw (K6i c t0 size2 closed3 fl) ?_ (fun hF => ?_)
   ·replace h := b6
    refine ic h (fun b7 h => ?_) fun b7 h => ?_
    ·refine sN ?_
     obtain ⟨b8,b9,h⟩ := Qel h
     refine wi [37] [(57,.bool b8)] ?_ ?_
     ·replace h := b9
      rcases is h with ⟨c0,h⟩ | ⟨c0,h⟩
      ·obtain rfl := os h
       exact rj hc none (nN 5 ([o_,o_,o_,oT,oN]++n_ 6 [oT])) (ar 3 (neF c0) (ai c0 (ar 3 nf (ai tt tv))))
      rcases is h with ⟨c1,h⟩ | ⟨c1,h⟩
      ·obtain rfl := os h
       exact rj hc none (nN 8 ([oF,oN]++n_ 6 [oT])) (ar 4 c0 (ar 3 (neF c1) (ai c1 tv)))
      rcases is h with ⟨c2,h⟩ | ⟨c2,h⟩
      ·obtain rfl := os h
       exact rj hc none (nN 8 ([oF]++nN 6 [oT,oF])) (ar 4 c0 (ar 2 c1 (ar 3 c2 (ac c1 c2 c1 tv))))
      obtain rfl := os h
      exact rj hc none (nN 8 [oF,oN,oN,oN,o_,o_,o_,oF,oF]) (ar 4 c0 (ar 2 c1 (ar 3 (neT c2) (ac c1 c2 c1 tv))))
     clear b9
     refine ic h (fun c3 h => ?_) fun c3 h => ?_
     ·obtain rfl := os h
      exact rs0 hc 1 [(8,.bool false)] [] (rt (re [true]))
     obtain rfl := os h
     exact sk (iv [])
    refine K3i hc 3 [37] [(18,.bool (t0.fN != 0))] (ic h (fun c4 h => ?_) fun c4 h => ?_)
    ·obtain rfl := os h
     exact rs0 hc 1 [(8,.bool false)] [] (rt (re [true]))
    obtain rfl := os h
    exact sk (iv [])
   rcases fl with ⟨⟩ | r
   ·refine wf hF ?_
    obtain rfl := os h
    exact im
   refine Wp.mono hF ?_
   rintro _ _ ⟨rfl,hfin⟩
   obtain rfl := os h
   exact ⟨rfl,hfin⟩
  rcases fl with ⟨⟩ | r
  ·refine wf hF ?_
   obtain rfl := os h
   exact im
  refine Wp.mono hF ?_
  rintro _ _ ⟨rfl,hfin⟩
  obtain rfl := os h
  exact ⟨rfl,hfin⟩
 rcases fl with ⟨⟩ | r
 ·refine wf hF (sN ?_)
  obtain ⟨c5,c6,h⟩ := Qel h
  refine K3h hc none [oN,oN,oc (.bool c5),oN] [] [(61,.bool (!c5))] (cq (K3y _ _ c6) K1p tv) ?_
  rcases is h with ⟨c7,h⟩ | ⟨c7,h⟩
  ·refine cF (!c5) (nF c7) (sk (sN ?_))
   obtain ⟨c8,c9,h⟩ := Qel h
   refine Wp.into (x := .normal) (mkS [(8,.bool c8)] []) ?_ ?_
   ·replace h := c9
    obtain ⟨d0,d1,h⟩ := Qel h
    rcases is h with ⟨d2,h⟩ | ⟨d2,h⟩
    ·obtain ⟨d3,d4,h⟩ := Qel h
     obtain rfl := os h
     exact rj hc none ([oN,oN,oc (.bool d0)]++nN 5 [oc (.bool d3),oT,oN]) (cq (K66 _ _ d1) K24 (ar 5 d2 (cq (K6h _ _ d4) K26 (ai d2 tv))))
    obtain rfl := os h
    exact rj hc none ([oN,oN,oc (.bool d0),oN]++n_ 5 [oF,oN]) (cq (K66 _ _ d1) K24 (ar 5 (neT d2) (ai d2 tv)))
   clear c9
   obtain rfl := os h
   exact rt (rq [true])
  refine cT (!c5) (nT c7) ?_
  obtain rfl := os h
  exact rs hc none [oN,oN,nQ ⟨[(64,I (t0.fType.length : Int))],[],[]⟩,oN,oN] [(8,.bool ((t0.fType.length : Int) == 0))] [] (ai (Qer (d := 64) I t0.fType) tv) (rt (rq [true]))
 refine Wp.mono hF ?_
 rintro _ _ ⟨rfl,hfin⟩
 obtain rfl := os h
 exact ⟨.inl rfl,hfin⟩
def K6p (p : Int × Int) : Option (Int) :=
 match p with
 | (op0,kid1) =>
  ((
  if (op0 == 5) = true then
  some ((kid1 == 1))
  else
  some (false)
  ) : Option (Bool)) >>= fun a0 =>
  if a0 = true then
  some 2
  else
  ((
  if (op0 == 8) = true then
  if (decide (kid1 > 0)) = true then
  some (true)
  else
  if (op0 == 9) = true then
  some (true)
  else
  if (op0 == 12) = true then
  some ((kid1 == 1))
  else
  some (false)
  else
  if (op0 == 9) = true then
  some (true)
  else
  if (op0 == 12) = true then
  some ((kid1 == 1))
  else
  some (false)
  ) : Option (Bool)) >>= fun a1 =>
  if a1 = true then
  some 1
  else
  some 0
def K6q (p : Int × Int) (r : Int) : Prop :=
 match p with
 | (op0,kid1) => Q7a Tryd.prog 61 [I op0,I kid1] (I r) []
theorem K6r : ∀ p r,K6p p = some r → K6q p r := by
 rintro ⟨op0,kid1⟩ r h
 unfold K6p at h
 refine b0 Tryd.f61 B61 31 [(0,I op0),(1,I kid1)] fun c hc => (K3g hc 1 [] [] [] (sN (bk 0 (sN ?_))))
 obtain ⟨a0,a1,h⟩ := Qel h
 refine wi [] [(5,.bool a0)] ?_ ?_
 ·replace h := a1
  rcases is h with ⟨a2,h⟩ | ⟨a2,h⟩
  ·obtain rfl := os h
   exact rj hc none (nN 5 [oT,oN]) (ar 3 a2 tv)
  obtain rfl := os h
  exact rj hc none [oN,oN,oN,o_,o_,oF,oN] (ar 2 (neT a2) (ai a2 tv))
 clear a1
 refine ic h (fun a3 h => ?_) fun a3 h => ?_
 ·obtain rfl := os h
  exact rs0 hc 1 [(4,I 2)] [] (rt (rq [true]))
 refine sN ?_
 obtain ⟨a4,a5,h⟩ := Qel h
 refine Wp.into (x := .normal) (mkS [(12,.bool a4)] []) ?_ ?_
 ·replace h := a5
  rcases is h with ⟨a6,h⟩ | ⟨a6,h⟩
  ·rcases is h with ⟨a7,h⟩ | ⟨a7,h⟩
   ·obtain rfl := os h
    exact rj hc none (nN 5 ([oT,oN,o_,o_,oT,oN]++n_ 6 [oT,oN])) (ar 3 a6 (ar 2 (neF a7) (ai a7 (ar 4 nf (ai tt tv)))))
   rcases is h with ⟨a8,h⟩ | ⟨a8,h⟩
   ·obtain rfl := os h
    exact rj hc none (nN 5 ([oT,oN,oN,oN,oF,oN]++n_ 6 [oT,oN])) (ar 3 a6 (ar 3 a7 (ar 4 (neF a8) (ai a8 tv))))
   rcases is h with ⟨a9,h⟩ | ⟨a9,h⟩
   ·obtain rfl := os h
    exact rj hc none (nN 5 ([oT,oN,oN,oN,oF]++nN 6 [oT,oF,oN])) (ar 3 a6 (ar 3 a7 (ar 3 a8 (ar 2 a9 (ac a8 a9 a8 tv)))))
   obtain rfl := os h
   exact rj hc none (nN 5 ([oT,oN,oN,oN,oF]++nN 4 [o_,o_,oF,oF,oN])) (ar 3 a6 (ar 3 a7 (ar 3 a8 (ar 2 (neT a9) (ac a8 a9 a8 tv)))))
  rcases is h with ⟨a7,h⟩ | ⟨a7,h⟩
  ·obtain rfl := os h
   exact rj hc none ([oN,oN,oN,o_,o_,oF,oN,oN,oN,oF,oN]++n_ 6 [oT,oN]) (ar 2 (neT a6) (ai a6 (ar 3 fF (ar 4 (neF a7) (ai a7 tv)))))
  rcases is h with ⟨a8,h⟩ | ⟨a8,h⟩
  ·obtain rfl := os h
   exact rj hc none ([oN,oN,oN,o_,o_,oF,oN,oN,oN,oF]++nN 6 [oT,oF,oN]) (ar 2 (neT a6) (ai a6 (ar 3 fF (ar 3 a7 (ar 2 a8 (ac a7 a8 a7 tv))))))
  obtain rfl := os h
  exact rj hc none ([oN,oN,oN,o_,o_,oF,oN,oN,oN,oF]++nN 4 [o_,o_,oF,oF,oN]) (ar 2 (neT a6) (ai a6 (ar 3 fF (ar 3 a7 (ar 2 (neT a8) (ac a7 a8 a7 tv))))))
 clear a5
 refine ic h (fun b1 h => ?_) fun b1 h => ?_
 ·obtain rfl := os h
  exact rs0 hc 1 [(4,I 1)] [] (rt (rq [true]))
 obtain rfl := os h
 exact sk (rs0 hc 1 [(4,I 0)] [] (rt (rq [true])))
def K6s (c : Ctx) : (Unit) ⊕ (Bool) → Exit → Q0d → Prop
 | .inl _ => Qe7 c (.exit 0) (mkS [] [])
 | .inr r => Qeg TIx Tryd.f52 [] (.bool r)
mutual
def K6t (p : K06 × Int × Int × Bool) : Option (Bool) :=
 match p with
 | (t0,n1,size2,closed3) =>
  (K6m (t0,n1,size2,closed3)) >>= fun a0 =>
  if a0 = true then
  (K6u (t0,n1,size2,closed3,0)) >>= fun fl => match fl with
  | .inl () =>
   some true
  | .inr r =>
   some r
  else
  some false
 partial_fixpoint
def K6u (p : K06 × Int × Int × Bool × Int) : Option ((Unit) ⊕ (Bool)) :=
 match p with
 | (t0,n1,size2,closed3,a0) =>
  if (decide (a0 < (t0.fKids.length : Int))) = true then
  (idx t0.fKids a0) >>= fun a1 =>
  (K6p (t0.fOp,a0)) >>= fun a2 =>
  (K6t (a1,(wr (n1 + a2)),size2,closed3)) >>= fun a3 =>
  if a3 = true then
  K6u (t0,n1,size2,closed3,(wr (a0 + 1)))
  else
  some (.inr false)
  else
  some (.inl ())
 partial_fixpoint
end
def K6v (p : K06 × Int × Int × Bool) (r : Bool) : Prop :=
 match p with
 | (t0,n1,size2,closed3) => Q7a Tryd.prog 52 [K11 t0,I n1,I size2,.bool closed3] (.bool r) []
def K6w (p : K06 × Int × Int × Bool × Int) (fl : (Unit) ⊕ (Bool)) : Prop :=
 match p with
 | (t0,n1,size2,closed3,a0) => ∀ c : Ctx,c.nt = 38 → WpL Tryd.prog c (cl (cl (cr (cl (cr (cr B52)))))) (K6s c fl) (mkS [(1,I n1),(2,I size2),(3,.bool closed3),(4,.ra 1 0),(9,I a0)] [(1,K10 t0)])
theorem K6x : (∀ p r,K6t p = some r → K6v p r) ∧ (∀ p r,K6u p = some r → K6w p r) := by
 refine K6t.mutual_partial_correctness K6v K6w ?_ ?_
 ·rintro spec_l2Term_l0_f spec_l2Term_l0_ih ⟨t0,n1,size2,closed3⟩ r h
  refine b0 Tryd.f52 B52 38 [(0,K11 t0),(1,I n1),(2,I size2),(3,.bool closed3)] fun c hc => (rsd hc none [nW 1,oN] [0] [(4,.ra 1 0)] [(1,K10 t0)] tv (sN ?_))
  obtain ⟨a0,a1,h⟩ := Qel h
  refine K3h hc none (nN 4 [oc (.bool a0),oN]) [] [(15,.bool (!a0))] (cq (K6o _ _ a1) K27 tv) ?_
  rcases is h with ⟨a2,h⟩ | ⟨a2,h⟩
  ·refine cF (!a0) (nF a2) (sk (sN (K3f hc 1 [(1,I n1),(2,I size2),(3,.bool closed3),(4,.ra 1 0),(9,I 0)] (bk 0 ?_))))
   obtain ⟨fl,a3,h⟩ := Qel h
   have hL := spec_l2Term_l0_ih _ _ a3 c hc
   refine lp ?_
   rcases fl with ⟨⟩ | r
   ·refine wl hL ?_
    obtain rfl := os h
    exact Qdz (rs0 hc 1 [(8,.bool true)] [] (rt (rq [true])))
   refine WpL.mono hL ?_
   rintro _ _ ⟨rfl,hfin⟩
   obtain rfl := os h
   exact ⟨.inl rfl,hfin⟩
  refine cT (!a0) (nT a2) ?_
  obtain rfl := os h
  exact rs0 hc 1 [(8,.bool false)] [] (rt (rq [true]))
 ·rintro spec_l2Term_f spec_l2Term_l0_f spec_l2Term_ih spec_l2Term_l0_ih ⟨t0,n1,size2,closed3,a4⟩ r h
  intro c hc
  refine WpL.step (sN (K3h hc none [oN,oN,oN,nQ ⟨[(19,I (t0.fKids.length : Int))],[],[]⟩,oN] [] [(20,.bool (decide (a4 < (t0.fKids.length : Int))))] (ai (Qer (d := 19) K09 t0.fKids) tv) (ic h (fun a5 h => ?_) fun a5 h => ?_)))
  ·refine sk (sN (bk 1 ?_))
   obtain ⟨a6,a7,a8,a9,b1,b2,h⟩ := bq3 h
   refine K3h hc (rx [[0],[1],[0],[3],[4],[0],[0],[0,6],[0],[0,6,7,8],[0,5,6,7,8,9],[0],[0],[13],[14]]) ([oN,oN,oN,eL (K11 a6)]++nN 5 [oc (I a8),oN,oN,oN,oc (.bool b1),oN]) [20] [(37,.bool (!b1))] (ai (Qep a7 (K0g a6)) (cq (K6r _ _ a9) K28 (cq (spec_l2Term_ih _ _ b2) K29 tv))) ?_
   rcases is h with ⟨b3,h⟩ | ⟨b3,h⟩
   ·exact cF (!b1) (nF b3) (sk (ri0 hc 3 (Qe3 (spec_l2Term_l0_ih _ _ h c hc))))
   refine cT (!b1) (nT b3) ?_
   obtain rfl := os h
   exact rs0 hc 1 [(8,.bool false)] [] (rt (re [true]))
  obtain rfl := os h
  exact xt 0 (Qdx (Qe4 (iv [])))
theorem K6y : ∀ p r,K6t p = some r → K6v p r := K6x.1
theorem K6z : ∀ p r,K6u p = some r → K6w p r := K6x.2
def K70 (t0 : K06) : Option (Bool) :=
 ((
 (K5q (t0,400)) >>= fun a0 =>
 if (decide (a0 ≥ 0)) = true then
 (K6t (t0,8,16,false)) >>= fun a1 =>
 some (a1)
 else
 some (false)
 ) : Option (Bool)) >>= fun a2 =>
 some a2
def K71 (t0 : K06) (r : Bool) : Prop :=
 Q7a Tryd.prog 35 [K11 t0] (.bool r) []
theorem K72 : ∀ p r,K70 p = some r → K71 p r := by
 rintro t0 r h
 unfold K70 at h
 refine b0 Tryd.f35 B35 10 [(0,K11 t0)] fun c hc => (rs hc none [nW 1,oN] [(1,.ra 1 0)] [(1,K10 t0)] tv (sN ?_))
 obtain ⟨a0,a1,h⟩ := Qel h
 refine Wp.into (x := .normal) (mkS [(2,.bool a0)] []) ?_ ?_
 ·replace h := a1
  obtain ⟨a2,a3,h⟩ := Qel h
  rcases is h with ⟨a4,h⟩ | ⟨a4,h⟩
  ·obtain ⟨a5,a6,h⟩ := Qel h
   obtain rfl := os h
   exact rj hc none [oN,oc (I a2),oN,oN,oN,oc (.bool a5),oT,oN] (cq (K5v _ _ a3) K22 (ar 2 a4 (cq (K6y _ _ a6) K29 (ai a4 tv))))
  obtain rfl := os h
  exact rj hc none [oN,oc (I a2),oN,oN,o_,o_,oF,oN] (cq (K5v _ _ a3) K22 (ar 2 (neT a4) (ai a4 tv)))
 clear a1
 obtain rfl := os h
 exact rt (rq [true])
def K73 (c : Ctx) : ByteArray → Exit → Q0d → Prop
 | a0 => Qe7 c (.exit 0) (mkS [(3,.str a0)] [])
def K74 (p : (List Int) × ByteArray × Int) : Option (ByteArray) :=
 match p with
 | (ty0,a0,a1) =>
  if (decide (a1 < (ty0.length : Int))) = true then
  (idx ty0 a1) >>= fun a2 =>
  ((
  if (a2 == 0) = true then
  (chk (((a0.size + (ByteArray.mk #[110]).size : Nat) : Int) ≤ 9223372036854775807)) >>= fun _ =>
  some ((a0 ++ (ByteArray.mk #[110])))
  else
  ((
  if (a2 == 1) = true then
  (chk (((a0.size + (ByteArray.mk #[42]).size : Nat) : Int) ≤ 9223372036854775807)) >>= fun _ =>
  some ((a0 ++ (ByteArray.mk #[42])))
  else
  ((
  if (a2 == 2) = true then
  (chk (((a0.size + (ByteArray.mk #[43]).size : Nat) : Int) ≤ 9223372036854775807)) >>= fun _ =>
  some ((a0 ++ (ByteArray.mk #[43])))
  else
  (K4m a2) >>= fun a3 =>
  ((
  if a3 = true then
  (chk (((a0.size + (ByteArray.mk #[62]).size : Nat) : Int) ≤ 9223372036854775807)) >>= fun _ =>
  (K67 a2) >>= fun a4 =>
  (K42 a4) >>= fun a5 =>
  (chk ((((a0 ++ (ByteArray.mk #[62])).size + a5.size : Nat) : Int) ≤ 9223372036854775807)) >>= fun _ =>
  (chk (((((a0 ++ (ByteArray.mk #[62])) ++ a5).size + (ByteArray.mk #[46]).size : Nat) : Int) ≤ 9223372036854775807)) >>= fun _ =>
  some ((((a0 ++ (ByteArray.mk #[62])) ++ a5) ++ (ByteArray.mk #[46])))
  else
  (chk (((a0.size + (ByteArray.mk #[33]).size : Nat) : Int) ≤ 9223372036854775807)) >>= fun _ =>
  (K67 a2) >>= fun a6 =>
  (K42 a6) >>= fun a7 =>
  (chk ((((a0 ++ (ByteArray.mk #[33])).size + a7.size : Nat) : Int) ≤ 9223372036854775807)) >>= fun _ =>
  (chk (((((a0 ++ (ByteArray.mk #[33])) ++ a7).size + (ByteArray.mk #[46]).size : Nat) : Int) ≤ 9223372036854775807)) >>= fun _ =>
  some ((((a0 ++ (ByteArray.mk #[33])) ++ a7) ++ (ByteArray.mk #[46])))
  ) : Option (ByteArray)) >>= fun a8 =>
  some (a8)
  ) : Option (ByteArray)) >>= fun a9 =>
  some (a9)
  ) : Option (ByteArray)) >>= fun b1 =>
  some (b1)
  ) : Option (ByteArray)) >>= fun b2 =>
  K74 (ty0,b2,(wr (a1 + 1)))
  else
  some (a0)
 partial_fixpoint
def K75 (p : (List Int) × ByteArray × Int) (fl : ByteArray) : Prop :=
 match p with
 | (ty0,a0,a1) => ∀ c : Ctx,c.nt = 52 → WpL Tryd.prog c (cl (cl (cr (cl (cr (cr (cr B54))))))) (K73 c fl) (mkS [(0,sI ty0),(3,.str a0),(4,I a1)] [])
theorem K76 : ∀ p r,K74 p = some r → K75 p r := by
 refine K74.partial_correctness K75 ?_
 rintro spec_FormatType_l0_f spec_FormatType_l0_ih ⟨ty0,a0,a1⟩ r h
 intro c hc
 refine WpL.step (sN (rsd hc none [oN,oN,nQ ⟨[(11,I (ty0.length : Int))],[],[]⟩,oN] [] [(12,.bool (decide (a1 < (ty0.length : Int))))] [] (ai (Qer (d := 11) I ty0) tv) (ic h (fun a2 h => ?_) fun a2 h => ?_)))
 ·refine sk (sN (bk 1 ?_))
  obtain ⟨a3,a4,h⟩ := Qel h
  refine rsd hc none [oN,oN,eL (I a3),oN,oN] [12] [(5,I a3)] [] (ai (ix a4) tv) (bk 2 (K3g hc 3 [] [(26,.bool (a3 == 0))] [] ?_))
  obtain ⟨a5,a6,h⟩ := Qel h
  refine wi [26,5,3] [(3,.str a5)] ?_ ?_
  ·replace h := a6
   refine ic h (fun a7 h => ?_) fun a7 h => ?_
   ·obtain ⟨_,a8,h⟩ := Qel h
    obtain rfl := os h
    exact rj hc none [oN,oN,oN] (ai (Qen a8) tv)
   refine K3g hc 3 [26] [(31,.bool (a3 == 1))] [] ?_
   obtain ⟨a9,b1,h⟩ := Qel h
   refine wi [31,5,3] [(3,.str a9)] ?_ ?_
   ·replace h := b1
    refine ic h (fun b2 h => ?_) fun b2 h => ?_
    ·obtain ⟨_,b3,h⟩ := Qel h
     obtain rfl := os h
     exact rj hc none [oN,oN,oN] (ai (Qen b3) tv)
    refine K3g hc 3 [31] [(36,.bool (a3 == 2))] [] ?_
    obtain ⟨b4,b5,h⟩ := Qel h
    refine Wp.into (x := .normal) (mkS [(0,sI ty0),(3,.str b4),(4,I a1)] []) ?_ ?_
    ·replace h := b5
     refine ic h (fun b6 h => ?_) fun b6 h => ?_
     ·obtain ⟨_,b7,h⟩ := Qel h
      obtain rfl := os h
      exact rj hc none [oN,oN,oN] (ai (Qen b7) tv)
     obtain ⟨b8,b9,h⟩ := Qel h
     refine rs hc none [oN,oc (.bool b8),oN] [(0,sI ty0),(3,.str a0),(4,I a1),(5,I a3),(41,.bool b8)] [] (cq (K4o _ _ b9) K1v tv) ?_
     obtain ⟨c0,c1,h⟩ := Qel h
     refine wi [3,5,41] [(3,.str c0)] ?_ ?_
     ·replace h := c1
      refine ic h (fun c2 h => ?_) fun c2 h => ?_
      ·obtain ⟨_,c3,c4,c5,c6,c7,_,c8,h⟩ := bq4 h
       obtain ⟨_,c9,h⟩ := Qel h
       obtain rfl := os h
       exact rj hc none [oN,oN,oN,oc (I c4),oc (.str c6),oN,oN,oN] (ai (Qen c3) (cq (K69 _ _ c5) K25 (cq (K44 _ _ c7) K1r (ab (Qen c8) (Qen c9) tv))))
      obtain ⟨_,d0,d1,d2,d3,d4,_,d5,h⟩ := bq4 h
      obtain ⟨_,d6,h⟩ := Qel h
      obtain rfl := os h
      exact rj hc none [oN,oN,oN,oc (I d1),oc (.str d3),oN,oN,oN] (ai (Qen d0) (cq (K69 _ _ d2) K25 (cq (K44 _ _ d4) K1r (ab (Qen d5) (Qen d6) tv))))
     clear c1
     obtain rfl := os h
     exact im
    clear b5
    obtain rfl := os h
    exact im
   clear b1
   obtain rfl := os h
   exact im
  clear a6
  exact ri0 hc 3 (Qe3 (spec_FormatType_l0_ih _ _ h c hc))
 obtain rfl := os h
 exact xt 0 (Qdx (Qe4 (iv [])))
def K77 (ty0 : (List Int)) : Option (ByteArray) :=
 (K64 ty0) >>= fun a0 =>
 if a0 = true then
 (K74 (ty0,ByteArray.empty,0)) >>= fun a1 =>
 some a1
 else
 some ByteArray.empty
def K78 (ty0 : (List Int)) (r : ByteArray) : Prop :=
 Q7a Tryd.prog 54 [sI ty0] (.str r) []
theorem K79 : ∀ p r,K77 p = some r → K78 p r := by
 rintro ty0 r h
 unfold K77 at h
 refine b0 Tryd.f54 B54 52 [(0,sI ty0)] fun c hc => (K3g hc 1 [] [] [] (sN ?_))
 obtain ⟨a0,a1,h⟩ := Qel h
 refine rsd hc none [oN,oc (.bool a0),oN] [] [(8,.bool (!a0))] [] (cq (K66 _ _ a1) K24 tv) ?_
 rcases is h with ⟨a2,h⟩ | ⟨a2,h⟩
 ·refine cF (!a0) (nF a2) (sk (K3g hc 1 [8] [(3,.str ByteArray.empty)] [] (sN (rs0 hc 1 [(0,sI ty0),(3,.str ByteArray.empty),(4,I 0)] [] (bk 0 ?_)))))
  obtain ⟨a3,a4,h⟩ := Qel h
  have hL := K76 _ _ a4 c hc
  refine lp (wl hL ?_)
  obtain rfl := os h
  exact Qdz (rs0 hc 2 [(2,.str a3)] [] (rt (rq [true])))
 refine cT (!a0) (nT a2) ?_
 obtain rfl := os h
 exact rs0 hc 1 [(2,.str ByteArray.empty)] [] (rt (rq [true]))
def K7a (c : Ctx) : ByteArray → Exit → Q0d → Prop
 | a0 => Qe7 c (.exit 0) (mkS [(3,.str a0)] [])
mutual
def K7b (t0 : K06) : Option (ByteArray) :=
 if (t0.fOp == 0) = true then
 (K3z t0.fN) >>= fun a0 =>
 (chk ((((ByteArray.mk #[120]).size + a0.size : Nat) : Int) ≤ 9223372036854775807)) >>= fun _ =>
 some ((ByteArray.mk #[120]) ++ a0)
 else
 if (t0.fOp == 1) = true then
 (K3z t0.fN) >>= fun a1 =>
 some a1
 else
 (K3q t0.fOp) >>= fun a2 =>
 (K3t t0.fOp) >>= fun a3 =>
 ((
 if a3 = true then
 (chk (((a2.size + (ByteArray.mk #[58]).size : Nat) : Int) ≤ 9223372036854775807)) >>= fun _ =>
 (K42 t0.fN) >>= fun a4 =>
 (chk ((((a2 ++ (ByteArray.mk #[58])).size + a4.size : Nat) : Int) ≤ 9223372036854775807)) >>= fun _ =>
 some (((a2 ++ (ByteArray.mk #[58])) ++ a4))
 else
 some (a2)
 ) : Option (ByteArray)) >>= fun a5 =>
 (K3w t0.fOp) >>= fun a6 =>
 ((
 if a6 = true then
 (chk (((a5.size + (ByteArray.mk #[58]).size : Nat) : Int) ≤ 9223372036854775807)) >>= fun _ =>
 (K77 t0.fType) >>= fun a7 =>
 (chk ((((a5 ++ (ByteArray.mk #[58])).size + a7.size : Nat) : Int) ≤ 9223372036854775807)) >>= fun _ =>
 some (((a5 ++ (ByteArray.mk #[58])) ++ a7))
 else
 some (a5)
 ) : Option (ByteArray)) >>= fun a8 =>
 (K7c (t0,a8,0)) >>= fun a9 =>
 (chk (((a9.size + (ByteArray.mk #[41]).size : Nat) : Int) ≤ 9223372036854775807)) >>= fun _ =>
 some (a9 ++ (ByteArray.mk #[41]))
 partial_fixpoint
def K7c (p : K06 × ByteArray × Int) : Option (ByteArray) :=
 match p with
 | (t0,a0,a1) =>
  if (decide (a1 < (t0.fKids.length : Int))) = true then
  ((
  if (a1 == 0) = true then
  (chk (((a0.size + (ByteArray.mk #[40]).size : Nat) : Int) ≤ 9223372036854775807)) >>= fun _ =>
  some ((a0 ++ (ByteArray.mk #[40])))
  else
  (chk (((a0.size + (ByteArray.mk #[44]).size : Nat) : Int) ≤ 9223372036854775807)) >>= fun _ =>
  some ((a0 ++ (ByteArray.mk #[44])))
  ) : Option (ByteArray)) >>= fun a2 =>
  (idx t0.fKids a1) >>= fun a3 =>
  (K7b a3) >>= fun a4 =>
  (chk (((a2.size + a4.size : Nat) : Int) ≤ 9223372036854775807)) >>= fun _ =>
  K7c (t0,(a2 ++ a4),(wr (a1 + 1)))
  else
  some (a0)
 partial_fixpoint
end
def K7d (t0 : K06) (r : ByteArray) : Prop :=
 Q7a Tryd.prog 36 [K11 t0] (.str r) []
def K7e (p : K06 × ByteArray × Int) (fl : ByteArray) : Prop :=
 match p with
 | (t0,a0,a1) => ∀ c : Ctx,c.nt = 62 → WpL Tryd.prog c (cl (cl (cr (cl (cr (cr (cr (cr (cr (cr B36)))))))))) (K7a c fl) (mkS [(1,.ra 1 0),(3,.str a0),(4,I a1)] [(1,K10 t0)])
theorem K7f : (∀ p r,K7b p = some r → K7d p r) ∧ (∀ p r,K7c p = some r → K7e p r) := by
 refine K7b.mutual_partial_correctness K7d K7e ?_ ?_
 ·rintro spec_l2Text_l0_f spec_l2Text_l0_ih t0 r h
  refine b0 Tryd.f36 B36 62 [(0,K11 t0)] fun c hc => (rs hc none [nW 1,oN] [(1,.ra 1 0)] [(1,K10 t0)] tv (sN (K3i hc 3 [] [(7,.bool (t0.fOp == 0))] (ic h (fun a0 h => ?_) fun a0 h => ?_))))
  ·obtain ⟨a1,a2,_,a3,h⟩ := bq2 h
   obtain rfl := os h
   exact rs hc none [oN,oN,oc (.str a1),oN,oN] [(2,.str ((ByteArray.mk #[120]) ++ a1))] [] (cq (K41 _ _ a2) K1q (ai (Qen a3) tv)) (rt (rq [true]))
  refine sk (sN (K3i hc 3 [7] [(14,.bool (t0.fOp == 1))] (ic h (fun a4 h => ?_) fun a4 h => ?_)))
  ·obtain ⟨a5,a6,h⟩ := Qel h
   obtain rfl := os h
   exact rs hc none [oN,oN,oc (.str a5),oN] [(2,.str a5)] [] (cq (K41 _ _ a6) K1q tv) (rt (rq [true]))
  refine sk ?_
  obtain ⟨a7,a8,h⟩ := Qel h
  refine K3h hc none [oN,oN,oc (.str a7),oN] [14] [(3,.str a7)] (cq (K3s _ _ a8) K1n tv) (sN ?_)
  obtain ⟨a9,b1,h⟩ := Qel h
  refine K3h hc none [oN,oN,oc (.bool a9)] [] [(23,.bool a9)] (cq (K3v _ _ b1) K1o tv) ?_
  obtain ⟨b2,b3,h⟩ := Qel h
  refine wi [23,3] [(3,.str b2)] ?_ ?_
  ·replace h := b3
   refine ic h (fun b4 h => ?_) fun b4 h => ?_
   ·obtain ⟨_,b5,b6,b7,_,b8,h⟩ := bq3 h
    obtain rfl := os h
    exact rj hc none (nN 4 [oc (.str b6),oN,oN]) (ai (Qen b5) (cq (K44 _ _ b7) K1r (ai (Qen b8) tv)))
   obtain rfl := os h
   exact sk (iv [])
  clear b3
  refine sN ?_
  obtain ⟨b9,c0,h⟩ := Qel h
  refine rss hc none [oN,oN,oc (.bool b9)] [(1,.ra 1 0),(3,.str b2),(32,.bool b9)] (cq (K3y _ _ c0) K1p tv) ?_
  obtain ⟨c1,c2,h⟩ := Qel h
  refine wi [3,32] [(3,.str c1)] ?_ ?_
  ·replace h := c2
   refine ic h (fun c3 h => ?_) fun c3 h => ?_
   ·obtain ⟨_,c4,c5,c6,_,c7,h⟩ := bq3 h
    obtain rfl := os h
    exact rj hc none (nN 4 [oc (.str c5),oN,oN]) (ai (Qen c4) (cq (K79 _ _ c6) K2b (ai (Qen c7) tv)))
   obtain rfl := os h
   exact sk (iv [])
  clear c2
  refine sN (K3f hc 1 [(1,.ra 1 0),(3,.str c1),(4,I 0)] (bk 0 ?_))
  obtain ⟨c8,c9,h⟩ := Qel h
  have hL := spec_l2Text_l0_ih _ _ c9 c hc
  refine lp (wl hL (Qdz ?_))
  obtain ⟨_,d0,h⟩ := Qel h
  obtain rfl := os h
  exact rs hc none [oN,oN,oN] [(2,.str (c8 ++ (ByteArray.mk #[41])))] [] (ai (Qen d0) tv) (rt (rq [true]))
 ·rintro spec_l2Text_f spec_l2Text_l0_f spec_l2Text_ih spec_l2Text_l0_ih ⟨t0,d1,d2⟩ r h
  intro c hc
  refine WpL.step (sN (K3h hc none [oN,oN,oN,nQ ⟨[(42,I (t0.fKids.length : Int))],[],[]⟩,oN] [] [(43,.bool (decide (d2 < (t0.fKids.length : Int))))] (ai (Qer (d := 42) K09 t0.fKids) tv) (ic h (fun d3 h => ?_) fun d3 h => ?_)))
  ·refine sk (sN (bk 1 (sN (K3i hc 2 [43] [(47,.bool (d2 == 0))] ?_))))
   obtain ⟨d4,d5,h⟩ := Qel h
   refine wi [47,3] [(3,.str d4)] ?_ ?_
   ·replace h := d5
    refine ic h (fun d6 h => ?_) fun d6 h => ?_
    ·obtain ⟨_,d7,h⟩ := Qel h
     obtain rfl := os h
     exact rj hc none [oN,oN,oN] (ai (Qen d7) tv)
    obtain ⟨_,d8,h⟩ := Qel h
    obtain rfl := os h
    exact rj hc none [oN,oN,oN] (ai (Qen d8) tv)
   clear d5
   obtain ⟨d9,e0,e1,e2,_,e3,h⟩ := bq3 h
   exact K3d hc none (nN 4 [eL (K11 d9),oN,oc (.str e1),oN,oN]) [3] [(3,.str (d4 ++ e1))] (ai (Qep e0 (K0g d9)) (cq (spec_l2Text_ih _ _ e2) K2c (ai (Qen e3) tv))) (ri0 hc 3 (Qe3 (spec_l2Text_l0_ih _ _ h c hc)))
  obtain rfl := os h
  exact xt 0 (Qdx (Qe4 (iv [])))
theorem K7g : ∀ p r,K7b p = some r → K7d p r := K7f.1
theorem K7h : ∀ p r,K7c p = some r → K7e p r := K7f.2
def K7i (t0 : K06) : Option (ByteArray) :=
 (K70 t0) >>= fun a0 =>
 if a0 = true then
 (K7b t0) >>= fun a1 =>
 some a1
 else
 some ByteArray.empty
def K7j (t0 : K06) (r : ByteArray) : Prop :=
 Q7a Tryd.prog 19 [K11 t0] (.str r) []
theorem K7k : ∀ p r,K7i p = some r → K7j p r := by
 rintro t0 r h
 unfold K7i at h
 refine b0 Tryd.f19 B19 8 [(0,K11 t0)] fun c hc => (rs hc none [nW 1,oN] [(1,.ra 1 0)] [(1,K10 t0)] tv (sN ?_))
 obtain ⟨a0,a1,h⟩ := Qel h
 refine K3h hc none [oN,oc (.bool a0),oN] [] [(5,.bool (!a0))] (cq (K72 _ _ a1) K2a tv) ?_
 rcases is h with ⟨a2,h⟩ | ⟨a2,h⟩
 ·refine cF (!a0) (nF a2) (sk ?_)
  obtain ⟨a3,a4,h⟩ := Qel h
  obtain rfl := os h
  exact rs hc none [oN,oc (.str a3),oN] [(2,.str a3)] [] (cq (K7g _ _ a4) K2c tv) (rt (rq [true]))
 refine cT (!a0) (nT a2) ?_
 obtain rfl := os h
 exact rs0 hc 1 [(2,.str ByteArray.empty)] [] (rt (rq [true]))
def K7l (text0 : ByteArray) : Option (K06 × Bool) :=
 (K5i (text0,0,400)) >>= fun (a0,a1,a2) =>
 ((
 if (a1 != (text0.size : Int)) = true then
 some (true)
 else
 (K7i a0) >>= fun a3 =>
 if (a3.toList == text0.toList) = true then
 some ((text0.toList == ByteArray.empty.toList))
 else
 some (true)
 ) : Option (Bool)) >>= fun a4 =>
 if a4 = true then
 some ((K06.mk 0 0 [] []),false)
 else
 some (a0,true)
def K7m (text0 : ByteArray) (r : K06 × Bool) : Prop :=
 Q7a Tryd.prog 10 [.str text0] (.tup [.agg [I r.1.fOp,I r.1.fN,.osl (List.map I r.1.fType),oM K0c r.1.fKids],.bool r.2]) []
theorem K7n : ∀ p r,K7l p = some r → K7m p r := by
 rintro text0 r h
 unfold K7l at h
 refine b0 Tryd.f10 B10 29 [(0,.str text0)] fun c hc => (rsd hc none [nW 1,oN] [] [(2,.ra 1 0)] [(1,zT)] tv ?_)
 obtain ⟨⟨a0,a1,a2⟩,a3,h⟩ := Qel h
 refine rsd hc none ([oN,some (.call (.tup [K13 a0,I a1,I a2]) [] 2)]++nN 4 [nW 4,oN,oN,oN]) [] [(4,.ra 4 0),(5,I a1)] [(1,zT),(2,rI a0.fType),(3,rM K0c a0.fKids),(4,.box [I a0.fOp,I a0.fN,.rs 2,.rs 3])] (cq (K5n _ _ a3) K21 tv) (sN (sN ?_))
 obtain ⟨a4,a5,h⟩ := Qel h
 refine wi [5,0] [(26,.bool a4)] ?_ ?_
 ·replace h := a5
  rcases is h with ⟨a6,h⟩ | ⟨a6,h⟩
  ·obtain rfl := os h
   exact rj hc none (nN 5 (n_ 4 [oT,oN,o_,o_,oT])) (ar 4 (neF a6) (ai a6 (ar 2 nf (ai tt tv))))
  obtain ⟨a7,a8,h⟩ := Qel h
  rcases is h with ⟨a9,h⟩ | ⟨a9,h⟩
  ·obtain rfl := os h
   exact rj hc none (nN 6 [oc (.str a7),oN,oN,oF,oN,oN,oN,oF]) (ar 2 a6 (ac (Q7a.args (A1 := [K14 a0]) (A2 := [K11 a0]) (by simp only [K14,List.map_nil,K0s,Qfd]) (K7k _ _ a8)) K2d (Or.inr rfl : ([2,3] : List Nat) = [] ∨ noSh (.str a7) = true) (ar 3 a6 (ar 3 (nF a9) tv))))
  obtain rfl := os h
  exact rj hc none (nN 6 [oc (.str a7),oN,oN,oF,oN,o_,o_,oT]) (ar 2 a6 (ac (Q7a.args (A1 := [K14 a0]) (A2 := [K11 a0]) (by simp only [K14,List.map_nil,K0s,Qfd]) (K7k _ _ a8)) K2d (Or.inr rfl : ([2,3] : List Nat) = [] ∨ noSh (.str a7) = true) (ar 3 a6 (ar 2 (neF (nT a9)) (ai (nT a9) tv)))))
 clear a5
 refine ic h (fun b1 h => ?_) fun b1 h => ?_
 ·obtain rfl := os h
  exact K3g hc 3 [26,4] [(3,.bool false)] [(1,zT)] (rt (rq [true,true]))
 obtain rfl := os h
 exact sk (K3g hc 3 [26,4] [(3,.bool true)] [(1,.box [I a0.fOp,I a0.fN,.rs 2,.rs 3]),(2,rI a0.fType),(3,rM K0c a0.fKids)] (rt (rq [true,true])))
def K7o (p : ByteArray × ByteArray) : Option (Bool) :=
 match p with
 | (s0,prefix1) =>
  ((
   if (decide ((s0.size : Int) ≥ (prefix1.size : Int))) = true then
    (Qev s0 none (some (prefix1.size : Int))) >>= fun a0 =>
    some ((a0.toList == prefix1.toList))
   else
    some (false)
  ) : Option (Bool)) >>= fun a1 =>
  some a1
def K7p (p : ByteArray × ByteArray) (r : Bool) : Prop :=
 match p with
 | (s0,prefix1) => Q7a Tryd.prog 59 [.str s0,.str prefix1] (.bool r) []
theorem K7q : ∀ p r,K7o p = some r → K7p p r := by
 rintro ⟨s0,prefix1⟩ r h
 unfold K7o at h
 refine b0 Tryd.f59 B59 18 [(0,.str s0),(1,.str prefix1)] fun c hc => (K3g hc 1 [] [] [] (sN ?_))
 obtain ⟨a0,a1,h⟩ := Qel h
 refine Wp.into (x := .normal) (mkS [(4,.bool a0)] []) ?_ ?_
 ·replace h := a1
  rcases is h with ⟨a2,h⟩ | ⟨a2,h⟩
  ·obtain ⟨a3,a4,h⟩ := Qel h
   obtain rfl := os h
   exact rj hc none (nN 9 [nQ ⟨[(14,.str a3)],[],[]⟩,oN,oN,oT,oN]) (ar 4 a2 (ab (Qex (d := 14) a4) (Qew a4) (ar 3 a2 tv)))
  obtain rfl := os h
  exact rj hc none (nN 6 (n_ 6 [oF,oN])) (ar 6 (neT a2) (ai a2 tv))
 clear a1
 obtain rfl := os h
 exact rt (rq [true])
def K7r (p : ByteArray × ByteArray) : Option (Bool) :=
 match p with
 | (s0,prefix1) =>
  (K7o (s0,prefix1)) >>= fun a0 =>
  some a0
def K7s (p : ByteArray × ByteArray) (r : Bool) : Prop :=
 match p with
 | (s0,prefix1) => Q7a Tryd.prog 45 [.str s0,.str prefix1] (.bool r) []
theorem K7t : ∀ p r,K7r p = some r → K7s p r := by
 rintro ⟨s0,prefix1⟩ r h
 unfold K7r at h
 refine b0 Tryd.f45 B45 8 [(0,.str s0),(1,.str prefix1)] fun c hc => (K3g hc 1 [] [] [] ?_)
 obtain ⟨a0,a1,h⟩ := Qel h
 obtain rfl := os h
 exact rs hc none [oN,oN,oc (.bool a0),oN] [(4,.bool a0)] [] (cq (K7q _ _ a1) K2f tv) (rt (rq [true]))
def K7u (p : K07 × ByteArray) : Option (Bool × K07) :=
 match p with
 | (r0,t1) =>
  ((
  if r0.ffail = true then
  some (true)
  else
  (Qev r0.fs (some r0.fat) none) >>= fun a0 =>
  (K7r (a0,t1)) >>= fun a1 =>
  some ((!a1))
  ) : Option (Bool)) >>= fun a2 =>
  if a2 = true then
  some (false,r0)
  else
  some (true,(K07.mk r0.fs (wr (r0.fat + (t1.size : Int))) r0.ffail r0.fleft))
def K7v (p : K07 × ByteArray) (r : Bool × K07) : Prop :=
 match p with
 | (r0,t1) => Q7a Tryd.prog 28 [.optr [.str r0.fs,I r0.fat,.bool r0.ffail,I r0.fleft],.str t1] (.bool r.1) [.optr [.str r.2.fs,I r.2.fat,.bool r.2.ffail,I r.2.fleft],.undef]
theorem K7w : ∀ p r,K7u p = some r → K7v p r := by
 rintro ⟨r0,t1⟩ r h
 unfold K7u at h
 refine Q7a.bodyO K1k (fn := Tryd.f28) (code := B28) (by kernel_rfl) (by kernel_rfl) (by kernel_rfl) (nt := 32) (by kernel_rfl) (by kernel_rfl) (T := [(0,.ra 1000 0),(1,.str t1)]) (O := [(1000,.box [.str r0.fs,I r0.fat,.bool r0.ffail,I r0.fleft])]) (by kernel_rfl) (by kernel_rfl) (fun c hc => ?_)
 refine K3f hc 1 [(0,.ra 1000 0),(1,.str t1)] (sN (sN ?_))
 obtain ⟨a0,a1,h⟩ := Qel h
 refine Wp.into (x := .normal) (mkS [(0,.ra 1000 0),(1,.str t1),(22,.bool a0)] [(1000,.box [.str r0.fs,I r0.fat,.bool r0.ffail,I r0.fleft])]) ?_ ?_
 ·replace h := a1
  rcases is h with ⟨a2,h⟩ | ⟨a2,h⟩
  ·obtain rfl := os h
   exact rj hc K6l (nN 5 (n_ 12 [oT])) (ar 12 (neF a2) (ai a2 tv))
  obtain ⟨a3,a4,a5,a6,h⟩ := bq2 h
  obtain rfl := os h
  exact rj hc K6l (nN 13 [nQ ⟨[(18,.str a3)],[],[]⟩,oN,oc (.bool a5),oN,oF]) (ar 9 a2 (ab (Qex (d := 18) a4) (Qew a4) (ar 2 a2 (cq (K7t _ _ a6) K2g (ar 2 a2 tv)))))
 clear a1
 refine ic h (fun a7 h => ?_) fun a7 h => ?_
 ·obtain rfl := os h
  exact K3f hc 1 [(4,.bool false)] (rt (rr [true]))
 obtain rfl := os h
 exact sk (rs0 hc 10 [] [(1000,.box [.str r0.fs,I (wr (r0.fat + (t1.size : Int))),.bool r0.ffail,I r0.fleft])] (K3f hc 1 [(4,.bool true)] (rt (rr [true]))))
def K7x (c : Ctx) (r0 : K07) : Int → Exit → Q0d → Prop
 | a0 => Qe7 c (.exit 0) (mkS [(0,.ra 1000 0),(3,I r0.fat)] [(1000,.box [.str r0.fs,I a0,.bool r0.ffail,I r0.fleft])])
end Go.Am
