/- Walks, printed. -/
import Derived.Test.YtifijafaaljamaaDoorGPTTi
set_option linter.unusedVariables false
set_option linter.unusedSimpArgs false
set_option maxRecDepth 100000
namespace Go.Am
open Go Go.Proofs
def K1j : Option (List (List Nat)) := rx [[0],[1],[2],[3],[4],[5],[6],[7],[8],[5],[5,9],[5,9,10],[5,9,10,11],[13],[5],[15],[16],[17]]
def K1k : Option (List (List Nat)) := rx [[0],[1],[2],[3],[0],[0,4],[0,4,5],[0,4,5,6],[0,4,5,6,7],[9],[10],[11],[12],[13],[14],[11],[11,15],[17],[18],[19],[20],[21],[22],[23],[20],[20,24],[20,24,25],[20,24,25,26],[28],[29],[30],[31],[32],[33],[34],[35],[32],[32,36],[32,36,37],[32,36,37,38],[40],[41],[42]]
def K1l : Option (List (List Nat)) := rx [[0],[1],[2],[3],[4],[3],[3,5],[3,5,6],[3,5,6,7],[3],[3],[3,10],[3,10,11],[3,10,11,12],[3,5,6,7,8,9,10,11,12,13],[15],[16]]
def K1m (n0 : Int) : Option (ByteArray) :=
 ((
 if (decide (n0 ≥ 10)) = true then
 (K1m (wr (Int.tdiv n0 10))) >>= fun a0 =>
 (chk (((a0.size + (strOfNums [(IntKind.u8.wrap (wr (48 + (Int.tmod n0 10))))]).size : Nat) : Int) ≤ 9223372036854775807)) >>= fun _ =>
 some ((a0 ++ (strOfNums [(IntKind.u8.wrap (wr (48 + (Int.tmod n0 10))))])))
 else
 some ((strOfNums [(IntKind.u8.wrap (wr (48 + (Int.tmod n0 10))))]))
 ) : Option (ByteArray)) >>= fun a1 =>
 some a1
 partial_fixpoint
def K1n (n0 : Int) (r : ByteArray) : Prop :=
 Q7a Tryd.prog 53 [I n0] (.str r) []
theorem K1o : ∀ p r,K1m p = some r → K1n p r := by
 refine K1m.partial_correctness K1n ?_
 rintro spec_l1Decimal_f spec_l1Decimal_ih n0 r h
 refine b0 Tryd.f53 B53 18 [(0,I n0)] fun c hc => (K1g hc 1 [] [] [] (rsd hc none (nN 4 [mK 1,oT,oN]) [] [(3,.str (strOfNums [(IntKind.u8.wrap (wr (48 + (Int.tmod n0 10))))]))] [] (ai ((by decide) : (10 : Int) ≠ 0) tv) (sN (K1g hc 2 [] [(11,.bool (decide (n0 ≥ 10)))] [] ?_))))
 obtain ⟨a0,a1,h⟩ := Qel h
 refine Wp.into (x := .normal) (mkS [(3,.str a0)] []) ?_ ?_
 ·replace h := a1
  refine ic h (fun a2 h => ?_) fun a2 h => ?_
  ·obtain ⟨a3,a4,_,a5,h⟩ := bq2 h
   obtain rfl := os h
   exact rj hc none [oN,oN,oc (.str a3),oN,oN,oN] (ai ((by decide) : (10 : Int) ≠ 0) (cq (spec_l1Decimal_ih _ _ a4) K0i (ai (Qen a5) tv)))
  obtain rfl := os h
  exact sk (iv [])
 clear a1
 obtain rfl := os h
 exact rs0 hc 2 [(2,.str a0)] [] (rt (rq [true]))
def K1p (g0 : Int) : Option (ByteArray) :=
 if (decide (g0 < 0)) = true then
 some (ByteArray.mk #[63])
 else
 (K1m g0) >>= fun a0 =>
 some a0
def K1q (g0 : Int) (r : ByteArray) : Prop :=
 Q7a Tryd.prog 42 [I g0] (.str r) []
theorem K1r : ∀ p r,K1p p = some r → K1q p r := by
 rintro g0 r h
 unfold K1p at h
 refine b0 Tryd.f42 B42 7 [(0,I g0)] fun c hc => (K1g hc 1 [] [] [] (sN (K1g hc 2 [] [(4,.bool (decide (g0 < 0)))] [] (ic h (fun a0 h => ?_) fun a0 h => ?_))))
 ·obtain rfl := os h
  exact rs0 hc 1 [(2,.str (ByteArray.mk #[63]))] [] (rt (rq [true]))
 refine sk ?_
 obtain ⟨a1,a2,h⟩ := Qel h
 obtain rfl := os h
 exact rs hc none [oN,oc (.str a1),oN] [(2,.str a1)] [] (cq (K1o _ _ a2) K0i tv) (rt (rq [true]))
def K1s (c : Ctx) (t0 : ByteArray) (at1 : Int) : Int → Exit → Q0d → Prop
 | a0 => Qe7 c (.exit 0) (mkS [(0,.str t0),(1,I at1),(8,I a0)] [])
def K1t (p : ByteArray × Int × Int × Int) : Option (Int) :=
 match p with
 | (t0,at1,stop2,a0) =>
  ((
  if (decide (a0 < (t0.size : Int))) = true then
  (Qft t0 a0) >>= fun a1 =>
  some ((a1 != stop2))
  else
  some (false)
  ) : Option (Bool)) >>= fun a2 =>
  if a2 = true then
  K1t (t0,at1,stop2,(wr (a0 + 1)))
  else
  some (a0)
 partial_fixpoint
def K1u (p : ByteArray × Int × Int × Int) (fl : Int) : Prop :=
 match p with
 | (t0,at1,stop2,a0) => ∀ c : Ctx,c.nt = 44 → WpL Tryd.prog c (cl (cl (cl (cr (cr B25))))) (K1s c t0 at1 fl) (mkS [(0,.str t0),(1,I at1),(2,.int .u8 stop2),(8,I a0)] [])
theorem K1v : ∀ p r,K1t p = some r → K1u p r := by
 refine K1t.partial_correctness K1u ?_
 rintro spec_l2Read_l0_f spec_l2Read_l0_ih ⟨t0,at1,stop2,a0⟩ r h
 intro c hc
 refine WpL.step (sN (sN ?_))
 obtain ⟨a1,a2,h⟩ := Qel h
 refine wi [] [(21,.bool a1)] ?_ ?_
 ·replace h := a2
  rcases is h with ⟨a3,h⟩ | ⟨a3,h⟩
  ·obtain ⟨a4,a5,h⟩ := Qel h
   obtain rfl := os h
   exact rj hc none (nN 7 [nQ ⟨[(18,.int .u8 a4)],[],[]⟩,oN,oN,oT]) (ar 3 a3 (ab (Qfv (d := 18) a5) (Qfu a5) (ar 3 a3 tv)))
  obtain rfl := os h
  exact rj hc none (nN 5 (n_ 5 [oF])) (ar 5 (neT a3) (ai a3 tv))
 clear a2
 refine ic h (fun a6 h => ?_) fun a6 h => ?_
 ·exact sk (bk 1 (ri0 hc 3 (Qe3 (spec_l2Read_l0_ih _ _ h c hc))))
 obtain rfl := os h
 exact xt 0 (Qdx (Qe4 (iv [])))
def K1w (c : Ctx) (a0 : Int) : (Unit) ⊕ ((Int × Int)) → Exit → Q0d → Prop
 | .inl _ => Qe7 c (.exit 2) (mkS [(8,I a0)] [])
 | .inr r => Qeg TIx Tryd.f25 [] (.tup [I r.1,I r.2])
def K1x (p : ByteArray × Int × Int × Int) : Option ((Unit) ⊕ ((Int × Int))) :=
 match p with
 | (t0,at1,a0,a1) =>
  if (decide (a1 < 16)) = true then
  (Qev t0 (some at1) (some a0)) >>= fun a2 =>
  (K1p a1) >>= fun a3 =>
  if (a2.toList == a3.toList) = true then
  some (.inr (a1,(wr (a0 + 1))))
  else
  K1x (t0,at1,a0,(wr (a1 + 1)))
  else
  some (.inl ())
 partial_fixpoint
def K1y (p : ByteArray × Int × Int × Int) (fl : (Unit) ⊕ ((Int × Int))) : Prop :=
 match p with
 | (t0,at1,a0,a1) => ∀ c : Ctx,c.nt = 44 → WpL Tryd.prog c (cl (cl (cr (cl (cr (cr (cr (cr B25)))))))) (K1w c a0 fl) (mkS [(0,.str t0),(1,I at1),(8,I a0),(9,I a1)] [])
theorem K1z : ∀ p r,K1x p = some r → K1y p r := by
 refine K1x.partial_correctness K1y ?_
 rintro spec_l2Read_l1_f spec_l2Read_l1_ih ⟨t0,at1,a0,a1⟩ r h
 intro c hc
 refine WpL.step (sN (K1g hc 2 [] [(30,.bool (decide (a1 < 16)))] [] (ic h (fun a2 h => ?_) fun a2 h => ?_)))
 ·refine sk (sN (bk 3 ?_))
  obtain ⟨a3,a4,a5,a6,h⟩ := bq2 h
  refine rsd hc (rx [[0],[0],[0],[3],[0],[0,4],[6]]) [oN,oN,oN,nQ ⟨[(36,.str a3)],[],[]⟩,oN,oc (.str a5),oN] [30] [(39,.bool (a3.toList == a5.toList))] [] (ab (Qex (d := 36) a4) (Qew a4) (cq (K1r _ _ a6) K0j tv)) (ic h (fun a7 h => ?_) fun a7 h => ?_)
  ·obtain rfl := os h
   exact rs0 hc 5 [(6,I a1),(7,I (wr (a0 + 1)))] [] (rt (re [true,true]))
  exact sk (ri0 hc 3 (Qe3 (spec_l2Read_l1_ih _ _ h c hc)))
 obtain rfl := os h
 exact xt 2 (Qdx (Qe4 (iv [])))
def K20 (p : ByteArray × Int × Int) : Option (Int × Int) :=
 match p with
 | (t0,at1,stop2) =>
  (K1t (t0,at1,stop2,at1)) >>= fun a0 =>
  if (a0 == (t0.size : Int)) = true then
  some ((-2),a0)
  else
  (K1x (t0,at1,a0,(-1))) >>= fun fl => match fl with
  | .inl () =>
   some ((-2),a0)
  | .inr r =>
   some r
def K21 (p : ByteArray × Int × Int) (r : Int × Int) : Prop :=
 match p with
 | (t0,at1,stop2) => Q7a Tryd.prog 25 [.str t0,I at1,.int .u8 stop2] (.tup [I r.1,I r.2]) []
theorem K22 : ∀ p r,K20 p = some r → K21 p r := by
 rintro ⟨t0,at1,stop2⟩ r h
 unfold K20 at h
 refine b0 Tryd.f25 B25 44 [(0,.str t0),(1,I at1),(2,.int .u8 stop2)] fun c hc => (K1g hc 2 [] [] [] (rs0 hc 2 [(0,.str t0),(1,I at1),(2,.int .u8 stop2),(8,I at1)] [] (sN (bk 0 ?_))))
 obtain ⟨a0,a1,h⟩ := Qel h
 have hL := K1v _ _ a1 c hc
 refine lp (wl hL (Qdz (sN (K1g hc 4 [] [(27,.bool (a0 == (t0.size : Int)))] [] (ic h (fun a2 h => ?_) fun a2 h => ?_)))))
 ·obtain rfl := os h
  exact rs0 hc 3 [(6,I (-2)),(7,I a0)] [] (rt (rq [true,true]))
 refine sk (sN (rs0 hc 1 [(0,.str t0),(1,I at1),(8,I a0),(9,I (-1))] [] (bk 2 ?_)))
 obtain ⟨fl,a3,h⟩ := Qel h
 have hL := K1z _ _ a3 c hc
 refine lp ?_
 rcases fl with ⟨⟩ | r
 ·refine wl hL ?_
  obtain rfl := os h
  exact Qdz (rs0 hc 3 [(6,I (-2)),(7,I a0)] [] (rt (rq [true,true])))
 refine WpL.mono hL ?_
 rintro _ _ ⟨rfl,hfin⟩
 obtain rfl := os h
 exact ⟨.inl rfl,hfin⟩
def K23 (p : Bool × Int) : Option (Int) :=
 match p with
 | (arrow0,g1) =>
  ((
  if arrow0 = true then
  some ((decide (g1 < 0)))
  else
  some (false)
  ) : Option (Bool)) >>= fun a0 =>
  if a0 = true then
  some 35
  else
  if arrow0 = true then
  some (wr (3 + g1))
  else
  if (decide (g1 < 0)) = true then
  some 36
  else
  some (wr (19 + g1))
def K24 (p : Bool × Int) (r : Int) : Prop :=
 match p with
 | (arrow0,g1) => Q7a Tryd.prog 26 [.bool arrow0,I g1] (I r) []
theorem K25 : ∀ p r,K23 p = some r → K24 p r := by
 rintro ⟨arrow0,g1⟩ r h
 unfold K23 at h
 refine b0 Tryd.f26 B26 20 [(0,.bool arrow0),(1,I g1)] fun c hc => (K1g hc 1 [] [] [] (sN (bk 0 (sN ?_))))
 obtain ⟨a0,a1,h⟩ := Qel h
 refine wi [] [(5,.bool a0)] ?_ ?_
 ·replace h := a1
  rcases is h with ⟨a2,h⟩ | ⟨a2,h⟩
  ·obtain rfl := os h
   exact rj hc none (nN 4 [oT,oN]) (ar 3 a2 tv)
  obtain rfl := os h
  exact rj hc none [oN,oN,o_,o_,oF,oN] (ar 2 (neT a2) (ai a2 tv))
 clear a1
 refine ic h (fun a3 h => ?_) fun a3 h => ?_
 ·obtain rfl := os h
  exact rs0 hc 1 [(4,I 35)] [] (rt (rq [true]))
 refine K1g hc 2 [5,0] [(11,.bool arrow0)] [] (ic h (fun a4 h => ?_) fun a4 h => ?_)
 ·obtain rfl := os h
  exact rs0 hc 3 [(4,I (wr (3 + g1)))] [] (rt (rq [true]))
 refine K1g hc 3 [11] [(15,.bool (decide (g1 < 0)))] [] (ic h (fun a5 h => ?_) fun a5 h => ?_)
 ·obtain rfl := os h
  exact rs0 hc 1 [(4,I 36)] [] (rt (rq [true]))
 obtain rfl := os h
 exact sk (rs0 hc 3 [(4,I (wr (19 + g1)))] [] (rt (rq [true])))
def K26 (p : Int × Int × Int) : Option (Bool) :=
 match p with
 | (n0,low1,high2) =>
  ((
  if (decide (n0 ≥ low1)) = true then
  some ((decide (n0 ≤ high2)))
  else
  some (false)
  ) : Option (Bool)) >>= fun a0 =>
  some a0
def K27 (p : Int × Int × Int) (r : Bool) : Prop :=
 match p with
 | (n0,low1,high2) => Q7a Tryd.prog 50 [I n0,I low1,I high2] (.bool r) []
theorem K28 : ∀ p r,K26 p = some r → K27 p r := by
 rintro ⟨n0,low1,high2⟩ r h
 unfold K26 at h
 refine b0 Tryd.f50 B50 15 [(0,I n0),(1,I low1),(2,I high2)] fun c hc => (K1g hc 1 [] [] [] (sN ?_))
 obtain ⟨a0,a1,h⟩ := Qel h
 refine Wp.into (x := .normal) (mkS [(6,.bool a0)] []) ?_ ?_
 ·replace h := a1
  rcases is h with ⟨a2,h⟩ | ⟨a2,h⟩
  ·obtain rfl := os h
   exact rj hc none (nN 7 [oT,oN]) (ar 4 a2 tv)
  obtain rfl := os h
  exact rj hc none (nN 4 [o_,o_,o_,oF,oN]) (ar 3 (neT a2) (ai a2 tv))
 clear a1
 obtain rfl := os h
 exact rt (rq [true])
def K29 (c0 : Int) : Option (Bool) :=
 ((
 (K26 (c0,3,18)) >>= fun a0 =>
 if a0 = true then
 some (true)
 else
 some ((c0 == 35))
 ) : Option (Bool)) >>= fun a1 =>
 some a1
def K2a (c0 : Int) (r : Bool) : Prop :=
 Q7a Tryd.prog 43 [I c0] (.bool r) []
theorem K2b : ∀ p r,K29 p = some r → K2a p r := by
 rintro c0 r h
 unfold K29 at h
 refine b0 Tryd.f43 B43 9 [(0,I c0)] fun c hc => (K1g hc 1 [] [] [] (sN ?_))
 obtain ⟨a0,a1,h⟩ := Qel h
 refine Wp.into (x := .normal) (mkS [(2,.bool a0)] []) ?_ ?_
 ·replace h := a1
  obtain ⟨a2,a3,h⟩ := Qel h
  rcases is h with ⟨a4,h⟩ | ⟨a4,h⟩
  ·obtain rfl := os h
   exact rj hc none [oN,oc (.bool a2),oN,o_,o_,oT,oN] (cq (K28 _ _ a3) K0m (ar 2 (neF a4) (ai a4 tv)))
  obtain rfl := os h
  exact rj hc none [oN,oc (.bool a2),oN,oN,oN,oF,oN] (cq (K28 _ _ a3) K0m (ar 3 a4 tv))
 clear a1
 obtain rfl := os h
 exact rt (rq [true])
def K2c (c0 : Int) : Option (Bool) :=
 ((
 (K26 (c0,19,34)) >>= fun a0 =>
 if a0 = true then
 some (true)
 else
 some ((c0 == 36))
 ) : Option (Bool)) >>= fun a1 =>
 some a1
def K2d (c0 : Int) (r : Bool) : Prop :=
 Q7a Tryd.prog 44 [I c0] (.bool r) []
theorem K2e : ∀ p r,K2c p = some r → K2d p r := by
 rintro c0 r h
 unfold K2c at h
 refine b0 Tryd.f44 B44 9 [(0,I c0)] fun c hc => (K1g hc 1 [] [] [] (sN ?_))
 obtain ⟨a0,a1,h⟩ := Qel h
 refine Wp.into (x := .normal) (mkS [(2,.bool a0)] []) ?_ ?_
 ·replace h := a1
  obtain ⟨a2,a3,h⟩ := Qel h
  rcases is h with ⟨a4,h⟩ | ⟨a4,h⟩
  ·obtain rfl := os h
   exact rj hc none [oN,oc (.bool a2),oN,o_,o_,oT,oN] (cq (K28 _ _ a3) K0m (ar 2 (neF a4) (ai a4 tv)))
  obtain rfl := os h
  exact rj hc none [oN,oc (.bool a2),oN,oN,oN,oF,oN] (cq (K28 _ _ a3) K0m (ar 3 a4 tv))
 clear a1
 obtain rfl := os h
 exact rt (rq [true])
def K2f (c0 : Int) : Option (Int) :=
 if (c0 == 0) = true then
 some 0
 else
 ((
 if (c0 == 1) = true then
 some (true)
 else
 if (c0 == 2) = true then
 some (true)
 else
 (K29 c0) >>= fun a0 =>
 some (a0)
 ) : Option (Bool)) >>= fun a1 =>
 if a1 = true then
 some 2
 else
 (K2c c0) >>= fun a2 =>
 if a2 = true then
 some 1
 else
 some (-1)
def K2g (c0 : Int) (r : Int) : Prop :=
 Q7a Tryd.prog 27 [I c0] (I r) []
theorem K2h : ∀ p r,K2f p = some r → K2g p r := by
 rintro c0 r h
 unfold K2f at h
 refine b0 Tryd.f27 B27 20 [(0,I c0)] fun c hc => (K1g hc 1 [] [] [] (sN (bk 0 (K1g hc 3 [] [(3,.bool (c0 == 0))] [] (ic h (fun a0 h => ?_) fun a0 h => ?_)))))
 ·obtain rfl := os h
  exact rs0 hc 1 [(2,I 0)] [] (rt (rq [true]))
 refine sN ?_
 obtain ⟨a1,a2,h⟩ := Qel h
 refine wi [3] [(6,.bool a1)] ?_ ?_
 ·replace h := a2
  rcases is h with ⟨a3,h⟩ | ⟨a3,h⟩
  ·obtain rfl := os h
   exact rj hc none [oN,oN,oN,o_,o_,oT,oN,o_,o_,oT,oN] (ar 2 (neF a3) (ai a3 (ar 2 nf (ai tt tv))))
  rcases is h with ⟨a4,h⟩ | ⟨a4,h⟩
  ·obtain rfl := os h
   exact rj hc none (nN 5 [oF,oN,o_,o_,oT,oN]) (ar 3 a3 (ar 2 (neF a4) (ai a4 tv)))
  obtain ⟨a5,a6,h⟩ := Qel h
  obtain rfl := os h
  exact rj hc none (nN 5 [oF,oN,oN,oc (.bool a5),oF,oN]) (ar 3 a3 (ar 2 a4 (cq (K2b _ _ a6) K0n (ai a4 tv))))
 clear a2
 refine ic h (fun a7 h => ?_) fun a7 h => ?_
 ·obtain rfl := os h
  exact rs0 hc 1 [(2,I 2)] [] (rt (rq [true]))
 obtain ⟨a8,a9,h⟩ := Qel h
 refine rs hc none [oN,oc (.bool a8),oN] [(17,.bool a8)] [] (cq (K2e _ _ a9) K0o tv) (ic h (fun b1 h => ?_) fun b1 h => ?_)
 ·obtain rfl := os h
  exact rs0 hc 1 [(2,I 1)] [] (rt (rq [true]))
 obtain rfl := os h
 exact sk (rs0 hc 1 [(2,I (-1))] [] (rt (rq [true])))
def K2i (c : Ctx) (t0 : ByteArray) (a0 : List Int) (a1 : Int) : (Int × Int) ⊕ (((List Int) × Int)) → Exit → Q0d → Prop
 | .inl (a2,a3) => Qe7 c .normal (mkS [(0,.str t0),(1,I a2),(6,.rs 1),(7,I a1),(8,I a3)] [(1,rI a0)])
 | .inr r => Qeg TIx Tryd.f15 [] (.tup [oI r.1,I r.2])
def K2j (c : Ctx) (t0 : ByteArray) (a0 : List Int) (a1 : Int) : (Int × Int) ⊕ (((List Int) × Int)) → Exit → Q0d → Prop
 | .inl (a2,a3) => Qe7 c .normal (mkS [(0,.str t0),(1,I a2),(6,.rs 1),(7,I a1),(8,I a3)] [(1,rI a0)])
 | .inr r => Qeg TIx Tryd.f15 [] (.tup [oI r.1,I r.2])
def K2k (c : Ctx) : (Int × (List Int)) ⊕ (((List Int) × Int)) → Exit → Q0d → Prop
 | .inl (a0,a1) => Qe7 c (.exit 0) (mkS [(1,I a0),(6,.rs 1)] [(1,rI a1)])
 | .inr r => Qeg TIx Tryd.f15 [] (.tup [oI r.1,I r.2])
def K2l (p : ByteArray × Int × (List Int) × Int) : Option ((Int × (List Int)) ⊕ (((List Int) × Int))) :=
 match p with
 | (t0,a0,a1,a2) =>
  if (decide (a2 > 0)) = true then
  ((
  if (decide (a0 ≥ (t0.size : Int))) = true then
   some (true)
  else
   some ((decide ((a1.length : Int) ≥ 40)))
  ) : Option (Bool)) >>= fun a3 =>
  if a3 = true then
  some (.inr ([],(-1)))
  else
  (Qft t0 a0) >>= fun a4 =>
  ((
   if (a4 == 110) = true then
   some (.inl ((wr (a0 + 1)),0))
   else
   ((
    if (a4 == 42) = true then
    some ((a4 == 42))
    else
    some ((a4 == 43))
   ) : Option (Bool)) >>= fun a5 =>
   ((
    if a5 = true then
    (Qft t0 a0) >>= fun a6 =>
    ((
    if (a6 == 43) = true then
    some (2)
    else
    some (1)
    ) : Option (Int)) >>= fun a7 =>
    some (.inl ((wr (a0 + 1)),a7))
    else
    ((
    if (a4 == 62) = true then
    some ((a4 == 62))
    else
    some ((a4 == 33))
    ) : Option (Bool)) >>= fun a8 =>
    if a8 = true then
    (K20 (t0,(wr (a0 + 1)),46)) >>= fun (a9,b1) =>
    if (decide (a9 < (-1))) = true then
    some (.inr ([],(-1)))
    else
    (Qft t0 a0) >>= fun b2 =>
    (K23 ((b2 == 62),a9)) >>= fun b3 =>
    some (.inl (b1,b3))
    else
    some (.inr ([],(-1)))) : Option ((Int × Int) ⊕ (((List Int) × Int)))) >>= fun fl => match fl with
   | .inl (b4,b5) =>
    some (.inl (b4,b5))
   | .inr r =>
    some (.inr r)) : Option ((Int × Int) ⊕ (((List Int) × Int)))) >>= fun fl => match fl with
  | .inl (b6,b7) =>
   (Qey (a1.length + [b7].length) 8) >>= fun _ =>
   (K2f b7) >>= fun b8 =>
   K2l (t0,b6,(a1 ++ [b7]),(wr ((wr (a2 - 1)) + b8)))
  | .inr r =>
   some (.inr r)
  else
  some (.inl (a0,a1))
 partial_fixpoint
def K2m (p : ByteArray × Int × (List Int) × Int) (fl : (Int × (List Int)) ⊕ (((List Int) × Int))) : Prop :=
 match p with
 | (t0,a0,a1,a2) => ∀ c : Ctx,c.nt = 69 → WpL Tryd.prog c (cl (cl (cl (cr (cr (cr B15)))))) (K2k c fl) (mkS [(0,.str t0),(1,I a0),(6,.rs 1),(7,I a2)] [(1,rI a1)])
theorem K2n : ∀ p r,K2l p = some r → K2m p r := by
 refine K2l.partial_correctness K2m ?_
 rintro spec_l2Codes_l0_f spec_l2Codes_l0_ih ⟨t0,a0,a1,a2⟩ r h
 intro c hc
 refine WpL.step (sN (K1i hc 2 [] [(13,.bool (decide (a2 > 0)))] (ic h (fun a3 h => ?_) fun a3 h => ?_)))
 ·refine sk (bk 1 (sN (sN ?_)))
  obtain ⟨a4,a5,h⟩ := Qel h
  refine wi [13] [(22,.bool a4)] ?_ ?_
  ·replace h := a5
   rcases is h with ⟨a6,h⟩ | ⟨a6,h⟩
   ·obtain rfl := os h
    exact rj hc none (nN 5 [o_,o_,o_,oT]) (ar 3 (neF a6) (ai a6 tv))
   obtain rfl := os h
   exact rj hc none (nN 6 [nQ ⟨[(20,I (a1.length : Int))],[],[]⟩,oN,oF]) (ar 2 a6 (ai (Qer (d := 20) I a1) (ar 2 a6 tv)))
  clear a5
  refine ic h (fun a7 h => ?_) fun a7 h => ?_
  ·obtain rfl := os h
   exact rs0 hc 2 [(4,.nils),(5,I (-1))] [] (rt (re [true,true]))
  refine sk (K1i hc 1 [22] [(8,I 0)] (sN ?_))
  obtain ⟨a8,a9,h⟩ := Qel h
  refine K1h hc none [oN,oN,nQ ⟨[(25,.int .u8 a8)],[],[]⟩] [] [(25,.int .u8 a8)] (ab (Qfv (d := 25) a9) (Qfu a9) tv) (bk 2 (K1f hc 2 [(0,.str t0),(1,I a0),(6,.rs 1),(7,I a2),(8,I 0),(25,.int .u8 a8),(26,.bool (a8 == 110))] ?_))
  obtain ⟨fl,b1,h⟩ := Qel h
  refine flw (K2j c t0 a1 a2 fl) ?_ (fun hF => ?_)
  ·replace h := b1
   refine ic h (fun b2 h => ?_) fun b2 h => ?_
   ·obtain rfl := os h
    exact rj0 hc 3
   refine sN (K1i hc 2 [8,26] [(30,.bool (a8 == 42))] ?_)
   obtain ⟨b3,b4,h⟩ := Qel h
   refine Wp.into (x := .normal) (mkS [(0,.str t0),(1,I a0),(6,.rs 1),(7,I a2),(25,.int .u8 a8),(30,.bool b3)] [(1,rI a1)]) ?_ ?_
   ·replace h := b4
    refine ic h (fun b5 h => ?_) fun b5 h => ?_
    ·obtain rfl := os h
     exact sk im
    obtain rfl := os h
    exact rj0 hc 2
   clear b4
   obtain ⟨fl,b6,h⟩ := Qel h
   refine flw (K2i c t0 a1 a2 fl) ?_ (fun hF => ?_)
   ·replace h := b6
    refine ic h (fun b7 h => ?_) fun b7 h => ?_
    ·refine K1i hc 1 [25,30] [(8,I 1)] (sN ?_)
     obtain ⟨b8,b9,h⟩ := Qel h
     refine K1h hc none [oN,oN,nQ ⟨[(35,.int .u8 b8)],[],[]⟩,oN] [] [(36,.bool (b8 == 43))] (ab (Qfv (d := 35) b9) (Qfu b9) tv) ?_
     obtain ⟨c0,c1,h⟩ := Qel h
     refine wi [36,8] [(8,I c0)] ?_ ?_
     ·replace h := c1
      refine ic h (fun c2 h => ?_) fun c2 h => ?_
      ·obtain rfl := os h
       exact rj0 hc 1
      obtain rfl := os h
      exact sk (iv [])
     clear c1
     obtain rfl := os h
     exact rj0 hc 3
    refine sN (K1i hc 2 [30] [(39,.bool (a8 == 62))] ?_)
    obtain ⟨c3,c4,h⟩ := Qel h
    refine wi [39,25] [(39,.bool c3)] ?_ ?_
    ·replace h := c4
     refine ic h (fun c5 h => ?_) fun c5 h => ?_
     ·obtain rfl := os h
      exact sk (iv [])
     obtain rfl := os h
     exact rj0 hc 2
    clear c4
    refine ic h (fun c6 h => ?_) fun c6 h => ?_
    ·obtain ⟨⟨c7,c8⟩,c9,h⟩ := Qel h
     refine K1h hc none ([oN,oN,oN,oc (.tup [I c7,I c8])]++nN 5 []) [39] [(9,I c7),(10,I c8)] (cq (K22 _ _ c9) K0k tv) (sN (K1i hc 2 [] [(50,.bool (decide (c7 < (-1))))] (ic h (fun d0 h => ?_) fun d0 h => ?_)))
     ·obtain rfl := os h
      exact rs0 hc 2 [(4,.nils),(5,I (-1))] [] (rt (re [true,true]))
     refine sk ?_
     obtain ⟨d1,d2,d3,d4,h⟩ := bq2 h
     obtain rfl := os h
     exact K1h hc none [oN,oN,nQ ⟨[(53,.int .u8 d1)],[],[]⟩,oN,oN,oc (I d3),oN] [50,9,1] [(8,I d3)] (ab (Qfv (d := 53) d2) (Qfu d2) (cq (K25 _ _ d4) K0l tv)) (rj0 hc 2)
    obtain rfl := os h
    exact rs0 hc 2 [(4,.nils),(5,I (-1))] [] (rt (re [true,true]))
   rcases fl with ⟨d5,d6⟩ | r
   ·refine wf hF ?_
    obtain rfl := os h
    exact im
   refine Wp.mono hF ?_
   rintro _ _ ⟨rfl,hfin⟩
   obtain rfl := os h
   exact ⟨rfl,hfin⟩
  rcases fl with ⟨d7,d8⟩ | r
  ·refine wf hF ?_
   obtain ⟨_,d9,h⟩ := Qel h
   refine rsd hc none [oN,oN,mK 4,some (.eqv (.mk 5 true) ⟨[(61,.rs 5)],[(5,some (rI (a1 ++ [d8]))),(1,none),(4,none)],[5]⟩),oN] [6] [(6,.rs 5)] [(5,rI (a1 ++ [d8]))] (ab (congrArg (fun z => (⟨[(61,.rs 5)],[(5,some (.arr z)),(1,none),(4,none)],[5]⟩ : Wr)) ((List.map_append).symm : (List.map I a1) ++ (List.map I [d8]) = List.map I (a1 ++ [d8]))) (Qez (enc1 := I) (enc2 := I) (e1 := a1) (e2 := [d8]) (sz := 1) Qf8 Qf8 d9) tv) ?_
   obtain ⟨e0,e3,h⟩ := Qel h
   exact rgs hc none [oN,oN,oN,oc (I e0),oN,oN] [(0,.str t0),(1,I d7),(6,.rs 5),(7,I (wr ((wr (a2 - 1)) + e0)))] (cq (K2h _ _ e3) K0p tv) (Qe3 (WpL.view (fun a w hv => SRx.renL [(1,5)] hv (by kernel_rfl) (by kernel_rfl) (by kernel_rfl)) (spec_l2Codes_l0_ih _ _ h c hc)))
  refine Wp.mono hF ?_
  rintro _ _ ⟨rfl,hfin⟩
  obtain rfl := os h
  exact ⟨rfl,hfin⟩
 obtain rfl := os h
 exact xt 0 (Qdx (Qe4 (iv [])))
def K2o (p : ByteArray × Int) : Option ((List Int) × Int) :=
 match p with
 | (t0,at1) =>
  (K2l (t0,at1,[],1)) >>= fun fl => match fl with
  | .inl (a0,a1) =>
   some (a1,a0)
  | .inr r =>
   some r
def K2p (p : ByteArray × Int) (r : (List Int) × Int) : Prop :=
 match p with
 | (t0,at1) => Q7a Tryd.prog 15 [.str t0,I at1] (.tup [oI r.1,I r.2]) []
theorem K2q : ∀ p r,K2o p = some r → K2p p r := by
 rintro ⟨t0,at1⟩ r h
 unfold K2o at h
 refine b0 Tryd.f15 B15 69 [(0,.str t0),(1,I at1)] fun c hc => (K1g hc 2 [] [] [] (rsd hc none [mK 1,oN] [] [(6,.rs 1)] [(1,.arr (List.map I []))] tv (K1f hc 1 [(0,.str t0),(1,I at1),(6,.rs 1),(7,I 1)] (sN (bk 0 ?_)))))
 obtain ⟨fl,a0,h⟩ := Qel h
 have hL := K2n _ _ a0 c hc
 refine lp ?_
 rcases fl with ⟨a1,a2⟩ | r
 ·refine wl hL ?_
  obtain rfl := os h
  exact Qdz (K1f hc 4 [(4,.rs 1),(5,I a1)] (rt (rq [true,true])))
 refine WpL.mono hL ?_
 rintro _ _ ⟨rfl,hfin⟩
 obtain rfl := os h
 exact ⟨.inl rfl,hfin⟩
def K2r (t0 : ByteArray) : Option ((List Int) × Bool) :=
 (K2o (t0,0)) >>= fun (a0,a1) =>
 if (a1 != (t0.size : Int)) = true then
 some ([],false)
 else
 some (a0,true)
def K2s (t0 : ByteArray) (r : (List Int) × Bool) : Prop :=
 Q7a Tryd.prog 5 [.str t0] (.tup [oI r.1,.bool r.2]) []
theorem K2t : ∀ p r,K2r p = some r → K2s p r := by
 rintro t0 r h
 unfold K2r at h
 refine b0 Tryd.f5 B5 16 [(0,.str t0)] fun c hc => (K1g hc 2 [] [] [] ?_)
 obtain ⟨⟨a0,a1⟩,a2,h⟩ := Qel h
 refine rsd hc none ([oN,oc (.tup [oI a0,I a1])]++nN 5 []) [] [(4,.rs 1),(5,I a1)] [(1,rI a0)] (cq (K2q _ _ a2) K0q tv) (sN (K1i hc 4 [5,0] [(14,.bool (a1 != (t0.size : Int)))] (ic h (fun a3 h => ?_) fun a3 h => ?_)))
 ·obtain rfl := os h
  exact rs0 hc 2 [(2,.nils),(3,.bool false)] [] (rt (rq [true,true]))
 obtain rfl := os h
 exact sk (K1f hc 3 [(2,.rs 1),(3,.bool true)] (rt (rq [true,true])))
def K2u (p : ByteArray × ByteArray) : Option (Bool) :=
 match p with
 | (s0,prefix1) =>
  ((
   if (decide ((s0.size : Int) ≥ (prefix1.size : Int))) = true then
    (Qev s0 none (some (prefix1.size : Int))) >>= fun a0 =>
    some ((a0.toList == prefix1.toList))
   else
    some (false)
  ) : Option (Bool)) >>= fun a1 =>
  some a1
def K2v (p : ByteArray × ByteArray) (r : Bool) : Prop :=
 match p with
 | (s0,prefix1) => Q7a Tryd.prog 59 [.str s0,.str prefix1] (.bool r) []
theorem K2w : ∀ p r,K2u p = some r → K2v p r := by
 rintro ⟨s0,prefix1⟩ r h
 unfold K2u at h
 refine b0 Tryd.f59 B59 18 [(0,.str s0),(1,.str prefix1)] fun c hc => (K1g hc 1 [] [] [] (sN ?_))
 obtain ⟨a0,a1,h⟩ := Qel h
 refine Wp.into (x := .normal) (mkS [(4,.bool a0)] []) ?_ ?_
 ·replace h := a1
  rcases is h with ⟨a2,h⟩ | ⟨a2,h⟩
  ·obtain ⟨a3,a4,h⟩ := Qel h
   obtain rfl := os h
   exact rj hc none (nN 9 [nQ ⟨[(14,.str a3)],[],[]⟩,oN,oN,oT,oN]) (ar 4 a2 (ab (Qex (d := 14) a4) (Qew a4) (ar 3 a2 tv)))
  obtain rfl := os h
  exact rj hc none (nN 6 (n_ 6 [oF,oN])) (ar 6 (neT a2) (ai a2 tv))
 clear a1
 obtain rfl := os h
 exact rt (rq [true])
def K2x (p : ByteArray × ByteArray) : Option (Bool) :=
 match p with
 | (s0,prefix1) =>
  (K2u (s0,prefix1)) >>= fun a0 =>
  some a0
def K2y (p : ByteArray × ByteArray) (r : Bool) : Prop :=
 match p with
 | (s0,prefix1) => Q7a Tryd.prog 45 [.str s0,.str prefix1] (.bool r) []
theorem K2z : ∀ p r,K2x p = some r → K2y p r := by
 rintro ⟨s0,prefix1⟩ r h
 unfold K2x at h
 refine b0 Tryd.f45 B45 8 [(0,.str s0),(1,.str prefix1)] fun c hc => (K1g hc 1 [] [] [] ?_)
 obtain ⟨a0,a1,h⟩ := Qel h
 obtain rfl := os h
 exact rs hc none [oN,oN,oc (.bool a0),oN] [(4,.bool a0)] [] (cq (K2w _ _ a1) K0s tv) (rt (rq [true]))
def K30 (p : K06 × ByteArray) : Option (Bool × K06) :=
 match p with
 | (r0,t1) =>
  ((
  if r0.ffail = true then
  some (true)
  else
  (Qev r0.fs (some r0.fat) none) >>= fun a0 =>
  (K2x (a0,t1)) >>= fun a1 =>
  some ((!a1))
  ) : Option (Bool)) >>= fun a2 =>
  if a2 = true then
  some (false,r0)
  else
  some (true,(K06.mk r0.fs (wr (r0.fat + (t1.size : Int))) r0.ffail r0.fleft))
def K31 (p : K06 × ByteArray) (r : Bool × K06) : Prop :=
 match p with
 | (r0,t1) => Q7a Tryd.prog 28 [.optr [.str r0.fs,I r0.fat,.bool r0.ffail,I r0.fleft],.str t1] (.bool r.1) [.optr [.str r.2.fs,I r.2.fat,.bool r.2.ffail,I r.2.fleft],.undef]
theorem K32 : ∀ p r,K30 p = some r → K31 p r := by
 rintro ⟨r0,t1⟩ r h
 unfold K30 at h
 refine Q7a.bodyO K0g (fn := Tryd.f28) (code := B28) (by kernel_rfl) (by kernel_rfl) (by kernel_rfl) (nt := 32) (by kernel_rfl) (by kernel_rfl) (T := [(0,.ra 1000 0),(1,.str t1)]) (O := [(1000,.box [.str r0.fs,I r0.fat,.bool r0.ffail,I r0.fleft])]) (by kernel_rfl) (by kernel_rfl) (fun c hc => ?_)
 refine K1f hc 1 [(0,.ra 1000 0),(1,.str t1)] (sN (sN ?_))
 obtain ⟨a0,a1,h⟩ := Qel h
 refine Wp.into (x := .normal) (mkS [(0,.ra 1000 0),(1,.str t1),(22,.bool a0)] [(1000,.box [.str r0.fs,I r0.fat,.bool r0.ffail,I r0.fleft])]) ?_ ?_
 ·replace h := a1
  rcases is h with ⟨a2,h⟩ | ⟨a2,h⟩
  ·obtain rfl := os h
   exact rj hc K1j (nN 5 (n_ 12 [oT])) (ar 12 (neF a2) (ai a2 tv))
  obtain ⟨a3,a4,a5,a6,h⟩ := bq2 h
  obtain rfl := os h
  exact rj hc K1j (nN 13 [nQ ⟨[(18,.str a3)],[],[]⟩,oN,oc (.bool a5),oN,oF]) (ar 9 a2 (ab (Qex (d := 18) a4) (Qew a4) (ar 2 a2 (cq (K2z _ _ a6) K0t (ar 2 a2 tv)))))
 clear a1
 refine ic h (fun a7 h => ?_) fun a7 h => ?_
 ·obtain rfl := os h
  exact K1f hc 1 [(4,.bool false)] (rt (rr [true]))
 obtain rfl := os h
 exact sk (rs0 hc 10 [] [(1000,.box [.str r0.fs,I (wr (r0.fat + (t1.size : Int))),.bool r0.ffail,I r0.fleft])] (K1f hc 1 [(4,.bool true)] (rt (rr [true]))))
def K33 (c : Ctx) (r0 : K06) : Int → Exit → Q0d → Prop
 | a0 => Qe7 c (.exit 0) (mkS [(0,.ra 1000 0),(3,I r0.fat)] [(1000,.box [.str r0.fs,I a0,.bool r0.ffail,I r0.fleft])])
def K34 (p : K06 × Int) : Option (Int) :=
 match p with
 | (r0,a0) =>
  ((
  if (decide (a0 < (r0.fs.size : Int))) = true then
  if (decide (a0 < (wr (r0.fat + 3)))) = true then
  (Qft r0.fs a0) >>= fun a1 =>
  if (decide (a1 ≥ 48)) = true then
  (Qft r0.fs a0) >>= fun a2 =>
  some ((decide (a2 ≤ 57)))
  else
  some (false)
  else
  some (false)
  else
  some (false)
  ) : Option (Bool)) >>= fun a3 =>
  if a3 = true then
  K34 (r0,(wr (a0 + 1)))
  else
  some (a0)
 partial_fixpoint
def K35 (p : K06 × Int) (fl : Int) : Prop :=
 match p with
 | (r0,a0) => ∀ c : Ctx,c.nt = 95 → WpL Tryd.prog c (cl (cl (cl (cr (cr B37))))) (K33 c r0 fl) (mkS [(0,.ra 1000 0),(3,I r0.fat)] [(1000,.box [.str r0.fs,I a0,.bool r0.ffail,I r0.fleft])])
theorem K36 : ∀ p r,K34 p = some r → K35 p r := by
 refine K34.partial_correctness K35 ?_
 rintro impl_readernumber_l0_f impl_readernumber_l0_ih ⟨r0,a0⟩ r h
 intro c hc
 refine WpL.step (sN (sN ?_))
 obtain ⟨a1,a2,h⟩ := Qel h
 refine wi [] [(52,.bool a1)] ?_ ?_
 ·replace h := a2
  rcases is h with ⟨a3,h⟩ | ⟨a3,h⟩
  ·rcases is h with ⟨a4,h⟩ | ⟨a4,h⟩
   ·obtain ⟨a5,a6,h⟩ := Qel h
    rcases is h with ⟨a7,h⟩ | ⟨a7,h⟩
    ·obtain ⟨a8,a9,h⟩ := Qel h
     obtain rfl := os h
     exact rj hc K1k (nN 18 ([oT]++nN 9 ([nQ ⟨[(38,.int .u8 a5)],[],[]⟩,oN,oT]++nN 9 [nQ ⟨[(50,.int .u8 a8)],[],[]⟩,oN,oT]))) (ar 8 a3 (ar 9 a4 (ab (Qfv (d := 38) a6) (Qfu a6) (ar 2 a4 (ar 9 a7 (ab (Qfv (d := 50) a9) (Qfu a9) (ar 2 a7 tv)))))))
    obtain rfl := os h
    exact rj hc K1k (nN 18 ([oT]++nN 9 ([nQ ⟨[(38,.int .u8 a5)],[],[]⟩,oN,oT,oN]++n_ 10 [oF]))) (ar 8 a3 (ar 9 a4 (ab (Qfv (d := 38) a6) (Qfu a6) (ar 2 a4 (ar 10 (neT a7) (ai a7 tv))))))
   obtain rfl := os h
   exact rj hc K1k (nN 18 ([oT,oN]++n_ 10 ([oF,oN]++n_ 10 [oF]))) (ar 8 a3 (ar 10 (neT a4) (ai a4 (ar 10 (neT fF) (ai fF tv)))))
  obtain rfl := os h
  exact rj hc K1k (nN 11 (n_ 7 ([oF,oN]++n_ 10 ([oF,oN]++n_ 10 [oF])))) (ar 7 (neT a3) (ai a3 (ar 10 (neT fF) (ai fF (ar 10 (neT fF) (ai fF tv))))))
 clear a2
 refine ic h (fun b1 h => ?_) fun b1 h => ?_
 ·exact sk (bk 1 (ri0 hc 8 (Qe3 (impl_readernumber_l0_ih _ _ h c hc))))
 obtain rfl := os h
 exact xt 0 (Qdx (Qe4 (iv [])))
def K37 (r0 : K06) : Option (Int × K06) :=
 (K34 (r0,r0.fat)) >>= fun a0 =>
 (Qev r0.fs (some r0.fat) (some a0)) >>= fun a1 =>
 (Q92 a1) >>= fun (a2,a3) =>
 ((
 if a3 = true then
 some (true)
 else
 (Q93 a2) >>= fun a4 =>
 (Qev r0.fs (some r0.fat) (some a0)) >>= fun a5 =>
 some ((!(a4.toList == a5.toList)))
 ) : Option (Bool)) >>= fun a6 =>
 if a6 = true then
 some (0,(K06.mk r0.fs a0 true r0.fleft))
 else
 some (a2,(K06.mk r0.fs a0 r0.ffail r0.fleft))
def K38 (r0 : K06) (r : Int × K06) : Prop :=
 Q7a Tryd.prog 37 [.optr [.str r0.fs,I r0.fat,.bool r0.ffail,I r0.fleft]] (I r.1) [.optr [.str r.2.fs,I r.2.fat,.bool r.2.ffail,I r.2.fleft]]
theorem K39 : ∀ p r,K37 p = some r → K38 p r := by
 rintro r0 r h
 unfold K37 at h
 refine Q7a.bodyO K0g (fn := Tryd.f37) (code := B37) (by kernel_rfl) (by kernel_rfl) (by kernel_rfl) (nt := 95) (by kernel_rfl) (by kernel_rfl) (T := [(0,.ra 1000 0)]) (O := [(1000,.box [.str r0.fs,I r0.fat,.bool r0.ffail,I r0.fleft])]) (by kernel_rfl) (by kernel_rfl) (fun c hc => ?_)
 refine K1f hc 1 [(0,.ra 1000 0)] (K1f hc 5 [(0,.ra 1000 0),(3,I r0.fat)] (sN (bk 0 ?_)))
 obtain ⟨a0,a1,h⟩ := Qel h
 have hL := K36 _ _ a1 c hc
 refine lp (wl hL (Qdz ?_))
 obtain ⟨a2,a3,⟨a4,a5⟩,a6,h⟩ := bq2 h
 refine K1h hc (rx [[0],[1],[2],[3],[0],[0],[0,5],[0,5,6],[0,5,6,7],[9],[10],[11],[12],[12],[13],[15]]) (nN 9 ([nQ ⟨[(70,.str a2)],[],[]⟩,oc (.tup [I a4,.err a5])]++nN 5 [])) [] [(4,I a4),(5,.err a5)] (ab (Qex (d := 70) a3) (Qew a3) (cq (K05 _ _ a6) K0v tv)) (sN (sN ?_))
 obtain ⟨a7,a8,h⟩ := Qel h
 refine wi [5,3] [(90,.bool a7)] ?_ ?_
 ·replace h := a8
  rcases is h with ⟨a9,h⟩ | ⟨a9,h⟩
  ·obtain rfl := os h
   exact rj hc K1l ([oN,oN,oN]++n_ 13 [oT]) (ai K0h (ar 13 (neF a9) (ai a9 tv)))
  obtain ⟨b1,b2,b3,b4,h⟩ := bq2 h
  obtain rfl := os h
  exact rj hc K1l (nN 4 ([oc (.str b1)]++nN 9 [nQ ⟨[(88,.str b3)],[],[]⟩,oN,oF])) (ai K0h (ar 2 a9 (cq (K04 _ _ b2) K0w (ar 10 a9 (ab (Qex (d := 88) b4) (Qew b4) (ar 2 a9 tv))))))
 clear a8
 refine ic h (fun b5 h => ?_) fun b5 h => ?_
 ·obtain rfl := os h
  exact rs0 hc 4 [] [(1000,.box [.str r0.fs,I a0,.bool true,I r0.fleft])] (K1f hc 1 [(2,I 0)] (rt (rr [true])))
 obtain rfl := os h
 exact sk (K1f hc 2 [(2,I a4)] (rt (rr [true])))
def K3a (r0 : K06) : Option (Int × K06) :=
 (K30 (r0,(ByteArray.mk #[63]))) >>= fun (a0,a1) =>
 if a0 = true then
 some ((-1),a1)
 else
 (K37 a1) >>= fun (a2,a3) =>
 ((
 if (decide (a2 ≥ 16)) = true then
 some (true)
 else
 some (a3.ffail)
 ) : Option (Bool)) >>= fun a4 =>
 some (a2,(K06.mk a3.fs a3.fat a4 a3.fleft))
def K3b (r0 : K06) (r : Int × K06) : Prop :=
 Q7a Tryd.prog 40 [.optr [.str r0.fs,I r0.fat,.bool r0.ffail,I r0.fleft]] (I r.1) [.optr [.str r.2.fs,I r.2.fat,.bool r.2.ffail,I r.2.fleft]]
theorem K3c : ∀ p r,K3a p = some r → K3b p r := by
 rintro r0 r h
 unfold K3a at h
 refine Q7a.bodyO K0g (fn := Tryd.f40) (code := B40) (by kernel_rfl) (by kernel_rfl) (by kernel_rfl) (nt := 14) (by kernel_rfl) (by kernel_rfl) (T := [(0,.ra 1000 0)]) (O := [(1000,.box [.str r0.fs,I r0.fat,.bool r0.ffail,I r0.fleft])]) (by kernel_rfl) (by kernel_rfl) (fun c hc => ?_)
 refine K1f hc 1 [(0,.ra 1000 0)] (sN ?_)
 obtain ⟨⟨a0,a1⟩,a2,h⟩ := Qel h
 refine rsd hc none [oN,some (.call (.bool a0) [.optr [.str a1.fs,I a1.fat,.bool a1.ffail,I a1.fleft],.undef] 1)] [] [(5,.bool a0)] [(1000,.box [.str a1.fs,I a1.fat,.bool a1.ffail,I a1.fleft])] (ab (K32 _ _ a2) K0u tv) (ic h (fun a3 h => ?_) fun a3 h => ?_)
 ·obtain rfl := os h
  exact K1f hc 1 [(2,I (-1))] (rt (rr [true]))
 refine sk ?_
 obtain ⟨⟨a4,a5⟩,a6,h⟩ := Qel h
 refine rsd hc none [oN,some (.call (I a4) [.optr [.str a5.fs,I a5.fat,.bool a5.ffail,I a5.fleft]] 1),oN] [5] [(3,I a4)] [(1000,.box [.str a5.fs,I a5.fat,.bool a5.ffail,I a5.fleft])] (ab (K39 _ _ a6) K0x tv) (sN (K1i hc 2 [] [(9,.bool (decide (a4 ≥ 16)))] ?_))
 obtain ⟨a7,a8,h⟩ := Qel h
 refine Wp.into (x := .normal) (mkS [(3,I a4)] [(1000,.box [.str a5.fs,I a5.fat,.bool a7,I a5.fleft])]) ?_ ?_
 ·replace h := a8
  refine ic h (fun a9 h => ?_) fun a9 h => ?_
  ·obtain rfl := os h
   exact rj0 hc 4
  obtain rfl := os h
  exact sk (iv [])
 clear a8
 obtain rfl := os h
 exact K1f hc 2 [(2,I a4)] (rt (rr [true]))
def K3d (p : K06 × ByteArray) : Option (K06) :=
 match p with
 | (r0,t1) =>
  (K30 (r0,t1)) >>= fun (a0,a1) =>
  ((
  if a0 = true then
  some (a1.ffail)
  else
  some (true)
  ) : Option (Bool)) >>= fun a2 =>
  some (K06.mk a1.fs a1.fat a2 a1.fleft)
def K3e (p : K06 × ByteArray) (r : K06) : Prop :=
 match p with
 | (r0,t1) => Q7a Tryd.prog 39 [.optr [.str r0.fs,I r0.fat,.bool r0.ffail,I r0.fleft],.str t1] (.tup []) [.optr [.str r.fs,I r.fat,.bool r.ffail,I r.fleft],.undef]
theorem K3f : ∀ p r,K3d p = some r → K3e p r := by
 rintro ⟨r0,t1⟩ r h
 unfold K3d at h
 refine Q7a.bodyO K0g (fn := Tryd.f39) (code := B39) (by kernel_rfl) (by kernel_rfl) (by kernel_rfl) (nt := 11) (by kernel_rfl) (by kernel_rfl) (T := [(0,.ra 1000 0),(1,.str t1)]) (O := [(1000,.box [.str r0.fs,I r0.fat,.bool r0.ffail,I r0.fleft])]) (by kernel_rfl) (by kernel_rfl) (fun c hc => ?_)
 obtain ⟨⟨a0,a1⟩,a2,h⟩ := Qel h
 refine rs hc none [oN,oN,some (.call (.bool a0) [.optr [.str a1.fs,I a1.fat,.bool a1.ffail,I a1.fleft],.undef] 1),oN] [(0,.ra 1000 0),(7,.bool (!a0))] [(1000,.box [.str a1.fs,I a1.fat,.bool a1.ffail,I a1.fleft])] (ab (K32 _ _ a2) K0u tv) ?_
 obtain ⟨a3,a4,h⟩ := Qel h
 refine Wp.into (x := .normal) (mkS [] [(1000,.box [.str a1.fs,I a1.fat,.bool a3,I a1.fleft])]) ?_ ?_
 ·replace h := a4
  rcases is h with ⟨a5,h⟩ | ⟨a5,h⟩
  ·refine cF (!a0) (nF a5) ?_
   obtain rfl := os h
   exact sk (iv [])
  refine cT (!a0) (nT a5) ?_
  obtain rfl := os h
  exact rj0 hc 4
 clear a4
 obtain rfl := os h
 exact Qei.normal (fl := []) (by kernel_rfl)
def K3g (p : K06 × Int × Int) : Option (Int × K06) :=
 match p with
 | (r0,closed1,open2) =>
  (K3a r0) >>= fun (a0,a1) =>
  (K3d (a1,(ByteArray.mk #[46]))) >>= fun a2 =>
  if (decide (a0 < 0)) = true then
  some (open2,a2)
  else
  some ((wr (closed1 + a0)),a2)
def K3h (p : K06 × Int × Int) (r : Int × K06) : Prop :=
 match p with
 | (r0,closed1,open2) => Q7a Tryd.prog 29 [.optr [.str r0.fs,I r0.fat,.bool r0.ffail,I r0.fleft],I closed1,I open2] (I r.1) [.optr [.str r.2.fs,I r.2.fat,.bool r.2.ffail,I r.2.fleft],.undef,.undef]
theorem K3i : ∀ p r,K3g p = some r → K3h p r := by
 rintro ⟨r0,closed1,open2⟩ r h
 unfold K3g at h
 refine Q7a.bodyO K0g (fn := Tryd.f29) (code := B29) (by kernel_rfl) (by kernel_rfl) (by kernel_rfl) (nt := 18) (by kernel_rfl) (by kernel_rfl) (T := [(0,.ra 1000 0),(1,I closed1),(2,I open2)]) (O := [(1000,.box [.str r0.fs,I r0.fat,.bool r0.ffail,I r0.fleft])]) (by kernel_rfl) (by kernel_rfl) (fun c hc => ?_)
 refine K1f hc 1 [(0,.ra 1000 0),(1,I closed1),(2,I open2)] ?_
 obtain ⟨⟨a0,a1⟩,a2,h⟩ := Qel h
 refine rsd hc none [oN,some (.call (I a0) [.optr [.str a1.fs,I a1.fat,.bool a1.ffail,I a1.fleft]] 1),oN] [] [(7,I a0)] [(1000,.box [.str a1.fs,I a1.fat,.bool a1.ffail,I a1.fleft])] (ab (K3c _ _ a2) K0y tv) ?_
 obtain ⟨a3,a4,h⟩ := Qel h
 refine rsd hc none [oN,some (.call (.tup []) [.optr [.str a3.fs,I a3.fat,.bool a3.ffail,I a3.fleft],.undef] 1)] [0] [] [(1000,.box [.str a3.fs,I a3.fat,.bool a3.ffail,I a3.fleft])] (ab (K3f _ _ a4) K0z tv) (sN (K1i hc 2 [] [(13,.bool (decide (a0 < 0)))] (ic h (fun a5 h => ?_) fun a5 h => ?_)))
 ·obtain rfl := os h
  exact K1f hc 2 [(6,I open2)] (rt (rr [true]))
 obtain rfl := os h
 exact sk (K1f hc 4 [(6,I (wr (closed1 + a0)))] (rt (rr [true])))
def K3j (c : Ctx) : (List Int) × ByteArray × Int × Bool × Int → Exit → Q0d → Prop
 | (a0,a1,a2,a3,a4) => Qe7 c (.exit 0) (mkS [(3,.rs 12)] [(12,rI a0),(1000,.box [.str a1,I a2,.bool a3,I a4])])
def K3k (p : ByteArray × Int × Bool × Int × (List Int) × Int) : Option ((List Int) × ByteArray × Int × Bool × Int) :=
 match p with
 | (a0,a1,a2,a3,a4,a5) =>
  ((
  if (decide (a5 > 0)) = true then
  if a2 = true then
  some (false)
  else
  some ((decide ((a4.length : Int) ≤ 40)))
  else
  some (false)
  ) : Option (Bool)) >>= fun a6 =>
  if a6 = true then
  (K30 ((K06.mk a0 a1 a2 a3),(ByteArray.mk #[110]))) >>= fun (a7,a8) =>
  ((
  if a7 = true then
  (Qey (a4.length + [0].length) 8) >>= fun _ =>
  some ((a8.fs,a8.fat,a8.ffail,a8.fleft,(a4 ++ [0]),a5))
  else
  (K30 (a8,(ByteArray.mk #[42]))) >>= fun (a9,b1) =>
  ((
  if a9 = true then
  (Qey (a4.length + [1].length) 8) >>= fun _ =>
  some ((b1.fs,b1.fat,b1.ffail,b1.fleft,(a4 ++ [1]),(wr (a5 + 2))))
  else
  (K30 (b1,(ByteArray.mk #[43]))) >>= fun (b2,b3) =>
  ((
  if b2 = true then
  (Qey (a4.length + [2].length) 8) >>= fun _ =>
  some ((b3.fs,b3.fat,b3.ffail,b3.fleft,(a4 ++ [2]),(wr (a5 + 2))))
  else
  (K30 (b3,(ByteArray.mk #[62]))) >>= fun (b4,b5) =>
  ((
  if b4 = true then
  (K3g (b5,3,35)) >>= fun (b6,b7) =>
  (Qey (a4.length + [b6].length) 8) >>= fun _ =>
  some ((b7.fs,b7.fat,b7.ffail,b7.fleft,(a4 ++ [b6]),(wr (a5 + 2))))
  else
  (K30 (b5,(ByteArray.mk #[33]))) >>= fun (b8,b9) =>
  ((
  if b8 = true then
  (K3g (b9,19,36)) >>= fun (c0,c1) =>
  (Qey (a4.length + [c0].length) 8) >>= fun _ =>
  some ((c1.fs,c1.fat,c1.ffail,c1.fleft,(a4 ++ [c0]),(wr (a5 + 1))))
  else
  some ((b9.fs,b9.fat,true,b9.fleft,a4,a5))
  ) : Option (ByteArray × Int × Bool × Int × (List Int) × Int)) >>= fun (c2,c3,c4,c5,c6,c7) =>
  some ((c2,c3,c4,c5,c6,c7))
  ) : Option (ByteArray × Int × Bool × Int × (List Int) × Int)) >>= fun (c8,c9,d0,d1,d2,d3) =>
  some ((c8,c9,d0,d1,d2,d3))
  ) : Option (ByteArray × Int × Bool × Int × (List Int) × Int)) >>= fun (d4,d5,d6,d7,d8,d9) =>
  some ((d4,d5,d6,d7,d8,d9))
  ) : Option (ByteArray × Int × Bool × Int × (List Int) × Int)) >>= fun (e0,e1,e2,e3,e4,e5) =>
  some ((e0,e1,e2,e3,e4,e5))
  ) : Option (ByteArray × Int × Bool × Int × (List Int) × Int)) >>= fun (e6,e7,e8,e9,f0,f1) =>
  K3k (e6,e7,e8,e9,f0,(wr (f1 - 1)))
  else
  some ((a4,a0,a1,a2,a3))
 partial_fixpoint
def K3l (p : ByteArray × Int × Bool × Int × (List Int) × Int) (fl : (List Int) × ByteArray × Int × Bool × Int) : Prop :=
 match p with
 | (a0,a1,a2,a3,a4,a5) => ∀ c : Ctx,c.nt = 67 → WpL Tryd.prog c (cl (cl (cr (cl (cr (cr B16)))))) (K3j c fl) (mkS [(0,.ra 1000 0),(3,.rs 12),(4,I a5)] [(12,rI a4),(1000,.box [.str a0,I a1,.bool a2,I a3])])
theorem K3m : ∀ p r,K3k p = some r → K3l p r := by
 refine K3k.partial_correctness K3l ?_
 rintro impl_readertyp_l0_f impl_readertyp_l0_ih ⟨a0,a1,a2,a3,a4,a5⟩ r h
 intro c hc
 refine WpL.step (sN (sN ?_))
 obtain ⟨a6,a7,h⟩ := Qel h
 refine wi [] [(18,.bool a6)] ?_ ?_
 ·replace h := a7
  rcases is h with ⟨a8,h⟩ | ⟨a8,h⟩
  ·rcases is h with ⟨a9,h⟩ | ⟨a9,h⟩
   ·obtain rfl := os h
    exact rj hc none (nN 8 [oT,oN,o_,o_,o_,oF]) (ar 6 a8 (ar 3 (neT (nF a9)) (ai (nF a9) tv)))
   obtain rfl := os h
   exact rj hc none (nN 8 [oT,oN,oN,nQ ⟨[(16,I (a4.length : Int))],[],[]⟩,oN,oT]) (ar 6 a8 (ar 2 (nT a9) (ai (Qer (d := 16) I a4) (ar 2 (nT a9) tv))))
  obtain rfl := os h
  exact rj hc none ([oN,oN,oN]++n_ 5 [oF,oN,o_,o_,o_,oF]) (ar 5 (neT a8) (ai a8 (ar 3 (neT fF) (ai fF tv))))
 clear a7
 refine ic h (fun b1 h => ?_) fun b1 h => ?_
 ·refine sk (sN (bk 1 (bk 2 ?_)))
  obtain ⟨⟨b2,b3⟩,b4,h⟩ := Qel h
  refine rsd hc none [oN,some (.call (.bool b2) [.optr [.str b3.fs,I b3.fat,.bool b3.ffail,I b3.fleft],.undef] 1),oN] [18] [(24,.bool b2)] [(12,rI a4),(1000,.box [.str b3.fs,I b3.fat,.bool b3.ffail,I b3.fleft])] (ab (K32 _ _ b4) K0u tv) ?_
  obtain ⟨⟨b5,b6,b7,b8,b9,c0⟩,c1,h⟩ := Qel h
  refine Wp.into (x := .normal) (mkS [(0,.ra 1000 0),(3,.rs 24),(4,I c0)] [(24,rI b9),(1000,.box [.str b5,I b6,.bool b7,I b8])]) ?_ ?_
  ·replace h := c1
   refine ic h (fun c2 h => ?_) fun c2 h => ?_
   ·obtain ⟨_,c3,h⟩ := Qel h
    obtain ⟨rfl,hq0⟩ := Prod.mk.inj (os h)
    obtain ⟨rfl,hq1⟩ := Prod.mk.inj (hq0)
    obtain ⟨rfl,hq2⟩ := Prod.mk.inj (hq1)
    obtain ⟨rfl,hq3⟩ := Prod.mk.inj (hq2)
    obtain ⟨rfl,rfl⟩ := Prod.mk.inj (hq3)
    exact rj hc none [oN,mK 23,some (.eqv (.mk 24 true) ⟨[(29,.rs 24)],[(24,some (rI (a4 ++ [0]))),(12,none),(23,none)],[24]⟩),oN] (ab (congrArg (fun z => (⟨[(29,.rs 24)],[(24,some (.arr z)),(12,none),(23,none)],[24]⟩ : Wr)) ((List.map_append).symm : (List.map I a4) ++ (List.map I [0]) = List.map I (a4 ++ [0]))) (Qez (enc1 := I) (enc2 := I) (e1 := a4) (e2 := [0]) (sz := 1) Qf8 Qf8 c3) tv)
   obtain ⟨⟨c4,c5⟩,c6,h⟩ := Qel h
   refine rsd hc none [oN,some (.call (.bool c4) [.optr [.str c5.fs,I c5.fat,.bool c5.ffail,I c5.fleft],.undef] 1),oN] [24] [(30,.bool c4)] [(12,rI a4),(1000,.box [.str c5.fs,I c5.fat,.bool c5.ffail,I c5.fleft])] (ab (K32 _ _ c6) K0u tv) ?_
   obtain ⟨⟨c7,c8,c9,d0,d1,d2⟩,d3,h⟩ := Qel h
   refine Wp.into (x := .normal) (mkS [(0,.ra 1000 0),(3,.rs 26),(4,I d2)] [(26,rI d1),(1000,.box [.str c7,I c8,.bool c9,I d0])]) ?_ ?_
   ·replace h := d3
    refine ic h (fun d4 h => ?_) fun d4 h => ?_
    ·obtain ⟨_,d5,h⟩ := Qel h
     refine rsd hc none [oN,mK 25,some (.eqv (.mk 26 true) ⟨[(35,.rs 26)],[(26,some (rI (a4 ++ [1]))),(12,none),(25,none)],[26]⟩),oN] [30,3] [(3,.rs 26)] [(26,rI (a4 ++ [1])),(1000,.box [.str c5.fs,I c5.fat,.bool c5.ffail,I c5.fleft])] (ab (congrArg (fun z => (⟨[(35,.rs 26)],[(26,some (.arr z)),(12,none),(25,none)],[26]⟩ : Wr)) ((List.map_append).symm : (List.map I a4) ++ (List.map I [1]) = List.map I (a4 ++ [1]))) (Qez (enc1 := I) (enc2 := I) (e1 := a4) (e2 := [1]) (sz := 1) Qf8 Qf8 d5) tv) ?_
     obtain ⟨rfl,hq0⟩ := Prod.mk.inj (os h)
     obtain ⟨rfl,hq1⟩ := Prod.mk.inj (hq0)
     obtain ⟨rfl,hq2⟩ := Prod.mk.inj (hq1)
     obtain ⟨rfl,hq3⟩ := Prod.mk.inj (hq2)
     obtain ⟨rfl,rfl⟩ := Prod.mk.inj (hq3)
     exact rj0 hc 3
    obtain ⟨⟨d6,d7⟩,d8,h⟩ := Qel h
    refine rsd hc none [oN,some (.call (.bool d6) [.optr [.str d7.fs,I d7.fat,.bool d7.ffail,I d7.fleft],.undef] 1),oN] [30] [(38,.bool d6)] [(12,rI a4),(1000,.box [.str d7.fs,I d7.fat,.bool d7.ffail,I d7.fleft])] (ab (K32 _ _ d8) K0u tv) ?_
    obtain ⟨⟨d9,e0,e3,e4,e5,e6⟩,e7,h⟩ := Qel h
    refine Wp.into (x := .normal) (mkS [(0,.ra 1000 0),(3,.rs 28),(4,I e6)] [(28,rI e5),(1000,.box [.str d9,I e0,.bool e3,I e4])]) ?_ ?_
    ·replace h := e7
     refine ic h (fun e8 h => ?_) fun e8 h => ?_
     ·obtain ⟨_,e9,h⟩ := Qel h
      refine rsd hc none [oN,mK 27,some (.eqv (.mk 28 true) ⟨[(43,.rs 28)],[(28,some (rI (a4 ++ [2]))),(12,none),(27,none)],[28]⟩),oN] [38,3] [(3,.rs 28)] [(28,rI (a4 ++ [2])),(1000,.box [.str d7.fs,I d7.fat,.bool d7.ffail,I d7.fleft])] (ab (congrArg (fun z => (⟨[(43,.rs 28)],[(28,some (.arr z)),(12,none),(27,none)],[28]⟩ : Wr)) ((List.map_append).symm : (List.map I a4) ++ (List.map I [2]) = List.map I (a4 ++ [2]))) (Qez (enc1 := I) (enc2 := I) (e1 := a4) (e2 := [2]) (sz := 1) Qf8 Qf8 e9) tv) ?_
      obtain ⟨rfl,hq0⟩ := Prod.mk.inj (os h)
      obtain ⟨rfl,hq1⟩ := Prod.mk.inj (hq0)
      obtain ⟨rfl,hq2⟩ := Prod.mk.inj (hq1)
      obtain ⟨rfl,hq3⟩ := Prod.mk.inj (hq2)
      obtain ⟨rfl,rfl⟩ := Prod.mk.inj (hq3)
      exact rj0 hc 3
     obtain ⟨⟨f0,f1⟩,f2,h⟩ := Qel h
     refine rsd hc none [oN,some (.call (.bool f0) [.optr [.str f1.fs,I f1.fat,.bool f1.ffail,I f1.fleft],.undef] 1),oN] [38] [(46,.bool f0)] [(12,rI a4),(1000,.box [.str f1.fs,I f1.fat,.bool f1.ffail,I f1.fleft])] (ab (K32 _ _ f2) K0u tv) ?_
     obtain ⟨⟨f3,f4,f5,f6,f7,f8⟩,f9,h⟩ := Qel h
     refine Wp.into (x := .normal) (mkS [(0,.ra 1000 0),(3,.rs 30),(4,I f8)] [(30,rI f7),(1000,.box [.str f3,I f4,.bool f5,I f6])]) ?_ ?_
     ·replace h := f9
      refine ic h (fun g0 h => ?_) fun g0 h => ?_
      ·obtain ⟨⟨g1,g2⟩,g3,h⟩ := Qel h
       obtain ⟨_,g4,h⟩ := Qel h
       refine rs hc none [oN,oN,some (.call (I g1) [.optr [.str g2.fs,I g2.fat,.bool g2.ffail,I g2.fleft],.undef,.undef] 1),mK 29,some (.eqv (.mk 30 true) ⟨[(53,.rs 30)],[(30,some (rI (a4 ++ [g1]))),(12,none),(29,none)],[30]⟩),oN] [(0,.ra 1000 0),(3,.rs 30),(4,I a5)] [(30,rI (a4 ++ [g1])),(1000,.box [.str g2.fs,I g2.fat,.bool g2.ffail,I g2.fleft])] (ad (K3i _ _ g3) K10 (congrArg (fun z => (⟨[(53,.rs 30)],[(30,some (.arr z)),(12,none),(29,none)],[30]⟩ : Wr)) ((List.map_append).symm : (List.map I a4) ++ (List.map I [g1]) = List.map I (a4 ++ [g1]))) (Qez (enc1 := I) (enc2 := I) (e1 := a4) (e2 := [g1]) (sz := 1) Qf8 Qf8 g4) tv) ?_
       obtain ⟨rfl,hq0⟩ := Prod.mk.inj (os h)
       obtain ⟨rfl,hq1⟩ := Prod.mk.inj (hq0)
       obtain ⟨rfl,hq2⟩ := Prod.mk.inj (hq1)
       obtain ⟨rfl,hq3⟩ := Prod.mk.inj (hq2)
       obtain ⟨rfl,rfl⟩ := Prod.mk.inj (hq3)
       exact rj0 hc 3
      obtain ⟨⟨g5,g6⟩,g7,h⟩ := Qel h
      refine rs hc none [oN,some (.call (.bool g5) [.optr [.str g6.fs,I g6.fat,.bool g6.ffail,I g6.fleft],.undef] 1),oN] [(0,.ra 1000 0),(3,.rs 12),(4,I a5),(56,.bool g5)] [(12,rI a4),(1000,.box [.str g6.fs,I g6.fat,.bool g6.ffail,I g6.fleft])] (ab (K32 _ _ g7) K0u tv) ?_
      obtain ⟨⟨g8,g9,i0,i1,i2,i3⟩,i4,h⟩ := Qel h
      refine Wp.into (x := .normal) (mkS [(0,.ra 1000 0),(3,.rs 32),(4,I i3)] [(32,rI i2),(1000,.box [.str g8,I g9,.bool i0,I i1])]) ?_ ?_
      ·replace h := i4
       refine ic h (fun i5 h => ?_) fun i5 h => ?_
       ·obtain ⟨⟨i6,i7⟩,i8,h⟩ := Qel h
        obtain ⟨_,i9,h⟩ := Qel h
        refine rsd hc none [oN,oN,some (.call (I i6) [.optr [.str i7.fs,I i7.fat,.bool i7.ffail,I i7.fleft],.undef,.undef] 1),mK 31,some (.eqv (.mk 32 true) ⟨[(63,.rs 32)],[(32,some (rI (a4 ++ [i6]))),(12,none),(31,none)],[32]⟩),oN] [3,56] [(3,.rs 32)] [(32,rI (a4 ++ [i6])),(1000,.box [.str i7.fs,I i7.fat,.bool i7.ffail,I i7.fleft])] (ad (K3i _ _ i8) K10 (congrArg (fun z => (⟨[(63,.rs 32)],[(32,some (.arr z)),(12,none),(31,none)],[32]⟩ : Wr)) ((List.map_append).symm : (List.map I a4) ++ (List.map I [i6]) = List.map I (a4 ++ [i6]))) (Qez (enc1 := I) (enc2 := I) (e1 := a4) (e2 := [i6]) (sz := 1) Qf8 Qf8 i9) tv) ?_
        obtain ⟨rfl,hq0⟩ := Prod.mk.inj (os h)
        obtain ⟨rfl,hq1⟩ := Prod.mk.inj (hq0)
        obtain ⟨rfl,hq2⟩ := Prod.mk.inj (hq1)
        obtain ⟨rfl,hq3⟩ := Prod.mk.inj (hq2)
        obtain ⟨rfl,rfl⟩ := Prod.mk.inj (hq3)
        exact rj0 hc 3
       refine K1c hc 4 [56] [] [(12,rI a4),(1000,.box [.str g6.fs,I g6.fat,.bool true,I g6.fleft])] ?_
       obtain ⟨rfl,hq0⟩ := Prod.mk.inj (os h)
       obtain ⟨rfl,hq1⟩ := Prod.mk.inj (hq0)
       obtain ⟨rfl,hq2⟩ := Prod.mk.inj (hq1)
       obtain ⟨rfl,hq3⟩ := Prod.mk.inj (hq2)
       obtain ⟨rfl,rfl⟩ := Prod.mk.inj (hq3)
       exact iv [(32,12)]
      clear i4
      obtain ⟨rfl,hq0⟩ := Prod.mk.inj (os h)
      obtain ⟨rfl,hq1⟩ := Prod.mk.inj (hq0)
      obtain ⟨rfl,hq2⟩ := Prod.mk.inj (hq1)
      obtain ⟨rfl,hq3⟩ := Prod.mk.inj (hq2)
      obtain ⟨rfl,rfl⟩ := Prod.mk.inj (hq3)
      exact iv [(30,32)]
     clear f9
     obtain ⟨rfl,hq0⟩ := Prod.mk.inj (os h)
     obtain ⟨rfl,hq1⟩ := Prod.mk.inj (hq0)
     obtain ⟨rfl,hq2⟩ := Prod.mk.inj (hq1)
     obtain ⟨rfl,hq3⟩ := Prod.mk.inj (hq2)
     obtain ⟨rfl,rfl⟩ := Prod.mk.inj (hq3)
     exact iv [(28,30)]
    clear e7
    obtain ⟨rfl,hq0⟩ := Prod.mk.inj (os h)
    obtain ⟨rfl,hq1⟩ := Prod.mk.inj (hq0)
    obtain ⟨rfl,hq2⟩ := Prod.mk.inj (hq1)
    obtain ⟨rfl,hq3⟩ := Prod.mk.inj (hq2)
    obtain ⟨rfl,rfl⟩ := Prod.mk.inj (hq3)
    exact iv [(26,28)]
   clear d3
   obtain ⟨rfl,hq0⟩ := Prod.mk.inj (os h)
   obtain ⟨rfl,hq1⟩ := Prod.mk.inj (hq0)
   obtain ⟨rfl,hq2⟩ := Prod.mk.inj (hq1)
   obtain ⟨rfl,hq3⟩ := Prod.mk.inj (hq2)
   obtain ⟨rfl,rfl⟩ := Prod.mk.inj (hq3)
   exact iv [(24,26)]
  clear c1
  exact K1b hc 3 [(0,.ra 1000 0),(3,.rs 24),(4,I (wr (c0 - 1)))] (Qe3 (WpL.view (fun a w hv => SRx.renL [(12,24)] hv (by kernel_rfl) (by kernel_rfl) (by kernel_rfl)) (impl_readertyp_l0_ih _ _ h c hc)))
 refine xt 0 (Qdx (Qe4 ?_))
 obtain ⟨rfl,hq0⟩ := Prod.mk.inj (os h)
 obtain ⟨rfl,hq1⟩ := Prod.mk.inj (hq0)
 obtain ⟨rfl,hq2⟩ := Prod.mk.inj (hq1)
 obtain ⟨rfl,rfl⟩ := Prod.mk.inj (hq2)
 exact iv []
def K3n (r0 : K06) : Option ((List Int) × K06) :=
 (K3k (r0.fs,r0.fat,r0.ffail,r0.fleft,[],1)) >>= fun (a0,a1,a2,a3,a4) =>
 some (a0,(K06.mk a1 a2 a3 a4))
def K3o (r0 : K06) (r : (List Int) × K06) : Prop :=
 Q7a Tryd.prog 16 [.optr [.str r0.fs,I r0.fat,.bool r0.ffail,I r0.fleft]] (oI r.1) [.optr [.str r.2.fs,I r.2.fat,.bool r.2.ffail,I r.2.fleft]]
theorem K3p : ∀ p r,K3n p = some r → K3o p r := by
 rintro r0 r h
 unfold K3n at h
 refine Q7a.bodyO K0g (fn := Tryd.f16) (code := B16) (by kernel_rfl) (by kernel_rfl) (by kernel_rfl) (nt := 67) (by kernel_rfl) (by kernel_rfl) (T := [(0,.ra 1000 0)]) (O := [(1000,.box [.str r0.fs,I r0.fat,.bool r0.ffail,I r0.fleft])]) (by kernel_rfl) (by kernel_rfl) (fun c hc => ?_)
 refine K1f hc 1 [(0,.ra 1000 0)] (K1i hc 1 [] [(3,.nils)] (sN (K1f hc 1 [(0,.ra 1000 0),(3,.nils),(4,I 1)] (bk 0 ?_))))
 obtain ⟨⟨a0,a1,a2,a3,a4⟩,a5,h⟩ := Qel h
 have hL := K3m _ _ a5 c hc
 refine Wp.loopN (by kernel_rfl) (WpL.view (fun a w hv => SRx.renL [(12,33)] (SRx.nilTL 3 33 hv (by kernel_rfl) (by kernel_rfl)) (by kernel_rfl) (by kernel_rfl) (by kernel_rfl)) (?_ : WpL _ c _ _ (mkS [(0,.ra 1000 0),(3,.rs 12),(4,I 1)] [(12,.arr (List.map I [])),(1000,.box [.str r0.fs,I r0.fat,.bool r0.ffail,I r0.fleft])])))
 refine wl hL ?_
 obtain rfl := os h
 exact Qdz (K1f hc 2 [(2,.rs 12)] (rt (rr [true])))
def K3q (p : Int × Int × Int) : Option (Bool) :=
 match p with
 | (n0,low1,high2) =>
  ((
  if (decide (n0 ≥ low1)) = true then
  some ((decide (n0 ≤ high2)))
  else
  some (false)
  ) : Option (Bool)) >>= fun a0 =>
  some a0
def K3r (p : Int × Int × Int) (r : Bool) : Prop :=
 match p with
 | (n0,low1,high2) => Q7a Tryd.prog 30 [I n0,I low1,I high2] (.bool r) []
theorem K3s : ∀ p r,K3q p = some r → K3r p r := by
 rintro ⟨n0,low1,high2⟩ r h
 unfold K3q at h
 refine b0 Tryd.f30 B30 15 [(0,I n0),(1,I low1),(2,I high2)] fun c hc => (K1g hc 1 [] [] [] (sN ?_))
 obtain ⟨a0,a1,h⟩ := Qel h
 refine Wp.into (x := .normal) (mkS [(6,.bool a0)] []) ?_ ?_
 ·replace h := a1
  rcases is h with ⟨a2,h⟩ | ⟨a2,h⟩
  ·obtain rfl := os h
   exact rj hc none (nN 7 [oT,oN]) (ar 4 a2 tv)
  obtain rfl := os h
  exact rj hc none (nN 4 [o_,o_,o_,oF,oN]) (ar 3 (neT a2) (ai a2 tv))
 clear a1
 obtain rfl := os h
 exact rt (rq [true])
def K3t (code0 : Int) : Option (Int × Int) :=
 (K3q (code0,0,2)) >>= fun a0 =>
 if a0 = true then
 some (code0,(-1))
 else
 (K3q (code0,3,18)) >>= fun a1 =>
 if a1 = true then
 some (3,(wr (code0 - 3)))
 else
 (K3q (code0,19,34)) >>= fun a2 =>
 if a2 = true then
 some (4,(wr (code0 - 19)))
 else
 if (code0 == 35) = true then
 some (3,(-1))
 else
 if (code0 == 36) = true then
 some (4,(-1))
 else
 some (5,(-1))
def K3u (code0 : Int) (r : Int × Int) : Prop :=
 Q7a Tryd.prog 46 [I code0] (.tup [I r.1,I r.2]) []
theorem K3v : ∀ p r,K3t p = some r → K3u p r := by
 rintro code0 r h
 unfold K3t at h
 refine b0 Tryd.f46 B46 24 [(0,I code0)] fun c hc => (K1g hc 2 [] [] [] (sN (bk 0 ?_)))
 obtain ⟨a0,a1,h⟩ := Qel h
 refine rsd hc none [oN,oc (.bool a0),oN] [] [(4,.bool a0)] [] (cq (K3s _ _ a1) K12 tv) (ic h (fun a2 h => ?_) fun a2 h => ?_)
 ·obtain rfl := os h
  exact rs0 hc 3 [(2,I code0),(3,I (-1))] [] (rt (rq [true,true]))
 obtain ⟨a3,a4,h⟩ := Qel h
 refine rsd hc none [oN,oc (.bool a3),oN] [4] [(8,.bool a3)] [] (cq (K3s _ _ a4) K12 tv) (ic h (fun a5 h => ?_) fun a5 h => ?_)
 ·obtain rfl := os h
  exact rs0 hc 4 [(2,I 3),(3,I (wr (code0 - 3)))] [] (rt (rq [true,true]))
 obtain ⟨a6,a7,h⟩ := Qel h
 refine rsd hc none [oN,oc (.bool a6),oN] [8] [(13,.bool a6)] [] (cq (K3s _ _ a7) K12 tv) (ic h (fun a8 h => ?_) fun a8 h => ?_)
 ·obtain rfl := os h
  exact rs0 hc 4 [(2,I 4),(3,I (wr (code0 - 19)))] [] (rt (rq [true,true]))
 refine K1g hc 3 [13] [(18,.bool (code0 == 35))] [] (ic h (fun a9 h => ?_) fun a9 h => ?_)
 ·obtain rfl := os h
  exact rs0 hc 2 [(2,I 3),(3,I (-1))] [] (rt (rq [true,true]))
 refine rs0 hc 3 [(21,.bool (code0 == 36))] [] (ic h (fun b1 h => ?_) fun b1 h => ?_)
 ·obtain rfl := os h
  exact rs0 hc 2 [(2,I 4),(3,I (-1))] [] (rt (rq [true,true]))
 obtain rfl := os h
 exact sk (rs0 hc 2 [(2,I 5),(3,I (-1))] [] (rt (rq [true,true])))
def K3w (p : (List Int) × Int) : Option (Int) :=
 match p with
 | (ty0,at1) =>
  ((
  if (decide (at1 < 0)) = true then
  some (true)
  else
  some ((decide (at1 ≥ (ty0.length : Int))))
  ) : Option (Bool)) >>= fun a0 =>
  if a0 = true then
  some (-1)
  else
  (idx ty0 at1) >>= fun a1 =>
  (K3t a1) >>= fun (a2,a3) =>
  if (a2 == 0) = true then
  some (wr (at1 + 1))
  else
  if (a2 == 4) = true then
  (K3w (ty0,(wr (at1 + 1)))) >>= fun a4 =>
  some a4
  else
  if (a2 == 5) = true then
  some (-1)
  else
  (K3w (ty0,(wr (at1 + 1)))) >>= fun a5 =>
  (K3w (ty0,a5)) >>= fun a6 =>
  some a6
 partial_fixpoint
def K3x (p : (List Int) × Int) (r : Int) : Prop :=
 match p with
 | (ty0,at1) => Q7a Tryd.prog 31 [sI ty0,I at1] (I r) []
theorem K3y : ∀ p r,K3w p = some r → K3x p r := by
 refine K3w.partial_correctness K3x ?_
 rintro impl_typeEnd_f impl_typeEnd_ih ⟨ty0,at1⟩ r h
 refine b0 Tryd.f31 B31 42 [(0,sI ty0),(1,I at1)] fun c hc => (K1g hc 1 [] [] [] (sN (sN ?_)))
 obtain ⟨a0,a1,h⟩ := Qel h
 refine wi [] [(14,.bool a0)] ?_ ?_
 ·replace h := a1
  rcases is h with ⟨a2,h⟩ | ⟨a2,h⟩
  ·obtain rfl := os h
   exact rj hc none ([oN,oN,oN]++n_ 4 [oT]) (ar 4 (neF a2) (ai a2 tv))
  obtain rfl := os h
  exact rj hc none (nN 5 [nQ ⟨[(12,I (ty0.length : Int))],[],[]⟩,oN,oF]) (ar 3 a2 (ai (Qer (d := 12) I ty0) (ar 2 a2 tv)))
 clear a1
 refine ic h (fun a3 h => ?_) fun a3 h => ?_
 ·obtain rfl := os h
  exact rs0 hc 1 [(4,I (-1))] [] (rt (rq [true]))
 refine sk ?_
 obtain ⟨a4,a5,⟨a6,a7⟩,a8,h⟩ := bq2 h
 refine rsd hc none ([oN,oN,eL (I a4),oN,oc (.tup [I a6,I a7])]++nN 5 []) [14] [(5,I a6)] [] (ai (ix a5) (cq (K3v _ _ a8) K13 tv)) (sN (K1g hc 1 [5] [(23,I a6)] [] (bk 0 (K1g hc 2 [] [(24,.bool (a6 == 0))] [] (ic h (fun a9 h => ?_) fun a9 h => ?_)))))
 ·obtain rfl := os h
  exact rs0 hc 3 [(4,I (wr (at1 + 1)))] [] (rt (rq [true]))
 refine rs0 hc 2 [(0,sI ty0),(1,I at1),(23,I a6),(28,.bool (a6 == 4))] [] (ic h (fun b1 h => ?_) fun b1 h => ?_)
 ·obtain ⟨b2,b3,h⟩ := Qel h
  obtain rfl := os h
  exact rs hc none [oN,oN,oN,oc (I b2),oN] [(4,I b2)] [] (cq (impl_typeEnd_ih _ _ b3) K14 tv) (rt (rq [true]))
 refine K1g hc 2 [23,28] [(34,.bool (a6 == 5))] [] (ic h (fun b4 h => ?_) fun b4 h => ?_)
 ·obtain rfl := os h
  exact rs0 hc 1 [(4,I (-1))] [] (rt (rq [true]))
 refine sk ?_
 obtain ⟨b5,b6,b7,b8,h⟩ := bq2 h
 obtain rfl := os h
 exact rs hc none (nN 4 [oc (I b5),oc (I b7),oN]) [(4,I b7)] [] (cq (impl_typeEnd_ih _ _ b6) K14 (cq (impl_typeEnd_ih _ _ b8) K14 tv)) (rt (rq [true]))
def K3z (ty0 : (List Int)) : Option (Bool) :=
 ((
 (K3q ((ty0.length : Int),1,40)) >>= fun a0 =>
 if a0 = true then
 (K3w (ty0,0)) >>= fun a1 =>
 some ((a1 == (ty0.length : Int)))
 else
 some (false)
 ) : Option (Bool)) >>= fun a2 =>
 some a2
def K40 (ty0 : (List Int)) (r : Bool) : Prop :=
 Q7a Tryd.prog 17 [sI ty0] (.bool r) []
theorem K41 : ∀ p r,K3z p = some r → K40 p r := by
 rintro ty0 r h
 unfold K3z at h
 refine b0 Tryd.f17 B17 13 [(0,sI ty0)] fun c hc => (K1g hc 1 [] [] [] (sN ?_))
 obtain ⟨a0,a1,h⟩ := Qel h
 refine Wp.into (x := .normal) (mkS [(2,.bool a0)] []) ?_ ?_
 ·replace h := a1
  obtain ⟨a2,a3,h⟩ := Qel h
  rcases is h with ⟨a4,h⟩ | ⟨a4,h⟩
  ·obtain ⟨a5,a6,h⟩ := Qel h
   obtain rfl := os h
   exact rj hc none [oN,nQ ⟨[(4,I (ty0.length : Int))],[],[]⟩,oc (.bool a2),oN,oN,oc (I a5),oN,nQ ⟨[(10,I (ty0.length : Int))],[],[]⟩,oN,oT,oN] (ai (Qer (d := 4) I ty0) (cq (K3s _ _ a3) K12 (ar 2 a4 (cq (K3y _ _ a6) K14 (ar 2 a4 (ai (Qer (d := 10) I ty0) (ar 2 a4 tv)))))))
  obtain rfl := os h
  exact rj hc none ([oN,nQ ⟨[(4,I (ty0.length : Int))],[],[]⟩,oc (.bool a2),oN]++n_ 5 [oF,oN]) (ai (Qer (d := 4) I ty0) (cq (K3s _ _ a3) K12 (ar 5 (neT a4) (ai a4 tv))))
 clear a1
 obtain rfl := os h
 exact rt (rq [true])
def K42 (t0 : ByteArray) : Option ((List Int) × Bool) :=
 (K3n (K06.mk t0 0 false 0)) >>= fun (a0,a1) =>
 ((
 if a1.ffail = true then
 some (true)
 else
 if (a1.fat != (t0.size : Int)) = true then
 some (true)
 else
 (K3z a0) >>= fun a2 =>
 some ((!a2))
 ) : Option (Bool)) >>= fun a3 =>
 if a3 = true then
 some ([],false)
 else
 some (a0,true)
def K43 (t0 : ByteArray) (r : (List Int) × Bool) : Prop :=
 Q7a Tryd.prog 6 [.str t0] (.tup [oI r.1,.bool r.2]) []
theorem K44 : ∀ p r,K42 p = some r → K43 p r := by
 rintro t0 r h
 unfold K42 at h
 refine b0 Tryd.f6 B6 30 [(0,.str t0)] fun c hc => (K1g hc 2 [] [] [] (rsd hc none [oN,oN,nW 1,oN] [] [(4,.ra 1 0)] [(1,.box [.str t0,I 0,.bool false,I 0])] tv ?_))
 obtain ⟨⟨a0,a1⟩,a2,h⟩ := Qel h
 refine rsd hc none [oN,some (.call (oI a0) [.optr [.str a1.fs,I a1.fat,.bool a1.ffail,I a1.fleft]] 2),oN] [] [(5,.rs 2)] [(1,.box [.str a1.fs,I a1.fat,.bool a1.ffail,I a1.fleft]),(2,rI a0)] (ab (K3p _ _ a2) K11 tv) (sN (sN ?_))
 obtain ⟨a3,a4,h⟩ := Qel h
 refine Wp.into (x := .normal) (mkS [(5,.rs 2),(28,.bool a3)] [(2,rI a0)]) ?_ ?_
 ·replace h := a4
  rcases is h with ⟨a5,h⟩ | ⟨a5,h⟩
  ·obtain rfl := os h
   exact rj hc none (nN 5 (n_ 7 [oT,oN,o_,o_,o_,oT])) (ar 7 (neF a5) (ai a5 (ar 3 nf (ai tt tv))))
  rcases is h with ⟨a6,h⟩ | ⟨a6,h⟩
  ·obtain rfl := os h
   exact rj hc none (nN 12 [oF,oN,o_,o_,o_,oT]) (ar 8 a5 (ar 3 (neF a6) (ai a6 tv)))
  obtain ⟨a7,a8,h⟩ := Qel h
  obtain rfl := os h
  exact rj hc none (nN 12 [oF,oN,oN,oc (.bool a7),oN,oF]) (ar 8 a5 (ar 2 a6 (ac (Q7a.args (A1 := [.sl (Q05 (List.map I a0))]) (A2 := [sI a0]) (by simp only [List.map_nil,Qfd]) (K41 _ _ a8)) K15 (Or.inr rfl : ([2] : List Nat) = [] ∨ noSh (.bool a7) = true) (ar 2 a6 tv))))
 clear a4
 refine ic h (fun a9 h => ?_) fun a9 h => ?_
 ·obtain rfl := os h
  exact rs0 hc 2 [(2,.nils),(3,.bool false)] [] (rt (rq [true,true]))
 obtain rfl := os h
 exact sk (K1f hc 3 [(2,.rs 2),(3,.bool true)] (rt (rq [true,true])))
def K45 (c : Ctx) : (Unit) ⊕ (Bool) → Exit → Q0d → Prop
 | .inl _ => Qe7 c (.exit 0) (mkS [] [])
 | .inr r => Qeg TIx Tryd.f7 [] (.bool r)
def K46 (p : (List Int) × (List Int) × Int) : Option ((Unit) ⊕ (Bool)) :=
 match p with
 | (a0,b1,a1) =>
  if (decide (a1 < (a0.length : Int))) = true then
  (idx a0 a1) >>= fun a2 =>
  (idx b1 a1) >>= fun a3 =>
  if (a2 != a3) = true then
  some (.inr false)
  else
  K46 (a0,b1,(wr (a1 + 1)))
  else
  some (.inl ())
 partial_fixpoint
def K47 (p : (List Int) × (List Int) × Int) (fl : (Unit) ⊕ (Bool)) : Prop :=
 match p with
 | (a0,b1,a1) => ∀ c : Ctx,c.nt = 26 → WpL Tryd.prog c (cl (cl (cr (cl (cr (cr B7)))))) (K45 c fl) (mkS [(0,sI a0),(1,sI b1),(5,I a1)] [])
theorem K48 : ∀ p r,K46 p = some r → K47 p r := by
 refine K46.partial_correctness K47 ?_
 rintro laws_eqIntS_l0_f laws_eqIntS_l0_ih ⟨a0,b1,a1⟩ r h
 intro c hc
 refine WpL.step (sN (rsd hc none [oN,oN,nQ ⟨[(13,I (a0.length : Int))],[],[]⟩,oN] [] [(14,.bool (decide (a1 < (a0.length : Int))))] [] (ai (Qer (d := 13) I a0) tv) (ic h (fun a2 h => ?_) fun a2 h => ?_)))
 ·refine sk (sN (bk 1 ?_))
  obtain ⟨a3,a4,a5,a6,h⟩ := bq2 h
  refine rsd hc (rx [[0],[0],[2],[3],[0],[0],[0,4,5],[0,4,5,6],[8]]) [oN,oN,eL (I a3),oN,oN,oN,eL (I a5),oN,oN] [14] [(25,.bool (a3 != a5))] [] (ab (ix a4) (ix a6) tv) (ic h (fun a7 h => ?_) fun a7 h => ?_)
  ·obtain rfl := os h
   exact rs0 hc 1 [(4,.bool false)] [] (rt (re [true]))
  exact sk (ri0 hc 3 (Qe3 (laws_eqIntS_l0_ih _ _ h c hc)))
 obtain rfl := os h
 exact xt 0 (Qdx (Qe4 (iv [])))
def K49 (p : (List Int) × (List Int)) : Option (Bool) :=
 match p with
 | (a0,b1) =>
  if ((a0.length : Int) != (b1.length : Int)) = true then
  some false
  else
  (K46 (a0,b1,0)) >>= fun fl => match fl with
  | .inl () =>
   some true
  | .inr r =>
   some r
def K4a (p : (List Int) × (List Int)) (r : Bool) : Prop :=
 match p with
 | (a0,b1) => Q7a Tryd.prog 7 [sI a0,sI b1] (.bool r) []
theorem K4b : ∀ p r,K49 p = some r → K4a p r := by
 rintro ⟨a0,b1⟩ r h
 unfold K49 at h
 refine b0 Tryd.f7 B7 26 [(0,sI a0),(1,sI b1)] fun c hc => (K1g hc 1 [] [] [] (sN (rsd hc none [oN,nQ ⟨[(7,I (a0.length : Int))],[],[]⟩,oN,nQ ⟨[(9,I (b1.length : Int))],[],[]⟩,oN] [] [(10,.bool ((a0.length : Int) != (b1.length : Int)))] [] (ab (Qer (d := 7) I a0) (Qer (d := 9) I b1) tv) (ic h (fun a1 h => ?_) fun a1 h => ?_))))
 ·obtain rfl := os h
  exact rs0 hc 1 [(4,.bool false)] [] (rt (rq [true]))
 refine sk (sN (rs0 hc 1 [(0,sI a0),(1,sI b1),(5,I 0)] [] (bk 0 ?_)))
 obtain ⟨fl,a2,h⟩ := Qel h
 have hL := K48 _ _ a2 c hc
 refine lp ?_
 rcases fl with ⟨⟩ | r
 ·refine wl hL ?_
  obtain rfl := os h
  exact Qdz (rs0 hc 1 [(4,.bool true)] [] (rt (rq [true])))
 refine WpL.mono hL ?_
 rintro _ _ ⟨rfl,hfin⟩
 obtain rfl := os h
 exact ⟨.inl rfl,hfin⟩
def K4c (c : Ctx) : Int × (List Int) → Exit → Q0d → Prop
 | (a0,a1) => Qe7 c (.exit 0) (mkS [(1,I a0)] [(1000,rI a1)])
def K4d (p : (List Int) × Int × Int) : Option (Int × (List Int)) :=
 match p with
 | (a0,a1,a2) =>
  if (decide (a2 < (a0.length : Int))) = true then
  (idx a0 a2) >>= fun a3 =>
  K4d ((List.set a0 (Int.toNat a2) a1),(wr (a1 + 1)),(wr (a2 + 1)))
  else
  some ((a1,a0))
 partial_fixpoint
def K4e (p : (List Int) × Int × Int) (fl : Int × (List Int)) : Prop :=
 match p with
 | (a0,a1,a2) => ∀ c : Ctx,c.nt = 19 → WpL Tryd.prog c (cl (cl (cr (cl (cr B8))))) (K4c c fl) (mkS [(0,.rs 1000),(1,I a1),(5,I a2)] [(1000,rI a0)])
theorem K4f : ∀ p r,K4d p = some r → K4e p r := by
 refine K4d.partial_correctness K4e ?_
 rintro laws_markIntS_l0_f laws_markIntS_l0_ih ⟨a0,a1,a2⟩ r h
 intro c hc
 refine WpL.step (sN (K1h hc none [oN,oN,nQ ⟨[(8,I (a0.length : Int))],[],[]⟩,oN] [] [(9,.bool (decide (a2 < (a0.length : Int))))] (ai (Qer (d := 8) I a0) tv) (ic h (fun a3 h => ?_) fun a3 h => ?_)))
 ·refine sk (sN (bk 1 ?_))
  obtain ⟨a4,a5,h⟩ := Qel h
  exact rsd hc none (nN 4 [some (.eqv (.mk 0 true) ⟨[],[(1000,some (.arr (List.map I (List.set a0 (Int.toNat a2) a1))))],[]⟩)]) [9] [] [(1000,.arr (List.map I (List.set a0 (Int.toNat a2) a1)))] (ac (Qeq (enc := I) a5) (congrArg (fun z => (⟨[],[(1000,some (.arr z))],[]⟩ : Wr)) (Qfo (enc := I) (i := Int.toNat a2) (l := a0) (v := a1) (x := I a1) (Qf0 a1))) (Qfp (enc := I) (sz := 1) Qf4 a5) tv) (K1e hc 3 [1] [(1,I (wr (a1 + 1)))] (ri0 hc 3 (Qe3 (laws_markIntS_l0_ih _ _ h c hc))))
 refine xt 0 (Qdx (Qe4 ?_))
 obtain ⟨rfl,rfl⟩ := Prod.mk.inj (os h)
 exact iv []
def K4g (p : (List Int) × Int) : Option (Int × (List Int)) :=
 match p with
 | (a0,k1) =>
  (K4d (a0,k1,0)) >>= fun (a1,a2) =>
  some (a1,a2)
def K4h (p : (List Int) × Int) (r : Int × (List Int)) : Prop :=
 match p with
 | (a0,k1) => Q7a Tryd.prog 8 [oI a0,I k1] (I r.1) [oI r.2,.undef]
theorem K4i : ∀ p r,K4g p = some r → K4h p r := by
 rintro ⟨a0,k1⟩ r h
 unfold K4g at h
 refine Q7a.bodyO K0g (fn := Tryd.f8) (code := B8) (by kernel_rfl) (by kernel_rfl) (by kernel_rfl) (nt := 19) (by kernel_rfl) (by kernel_rfl) (T := [(0,.rs 1000),(1,I k1)]) (O := [(1000,rI a0)]) (by kernel_rfl) (by kernel_rfl) (fun c hc => ?_)
 refine K1f hc 1 [(0,.rs 1000),(1,I k1)] (sN (K1f hc 1 [(0,.rs 1000),(1,I k1),(5,I 0)] (bk 0 ?_)))
 obtain ⟨⟨a1,a2⟩,a3,h⟩ := Qel h
 have hL := K4f _ _ a3 c hc
 refine lp (wl hL ?_)
 obtain rfl := os h
 exact Qdz (K1f hc 2 [(4,I a1)] (rt (rr [true])))
def K4j (c : Ctx) : (Int) ⊕ (Int) → Exit → Q0d → Prop
 | .inl a0 => Qe7 c (.exit 0) (mkS [(1,I a0)] [])
 | .inr r => Qeg TIx Tryd.f9 [] (I r)
def K4k (p : (List Int) × Int × Int) : Option ((Int) ⊕ (Int)) :=
 match p with
 | (a0,a1,a2) =>
  if (decide (a2 < (a0.length : Int))) = true then
  (idx a0 a2) >>= fun a3 =>
  if (a3 != a1) = true then
  some (.inr (-1))
  else
  K4k (a0,(wr (a1 + 1)),(wr (a2 + 1)))
  else
  some (.inl a1)
 partial_fixpoint
def K4l (p : (List Int) × Int × Int) (fl : (Int) ⊕ (Int)) : Prop :=
 match p with
 | (a0,a1,a2) => ∀ c : Ctx,c.nt = 21 → WpL Tryd.prog c (cl (cl (cr (cl (cr B9))))) (K4j c fl) (mkS [(0,sI a0),(1,I a1),(5,I a2)] [])
theorem K4m : ∀ p r,K4k p = some r → K4l p r := by
 refine K4k.partial_correctness K4l ?_
 rintro laws_heldIntS_l0_f laws_heldIntS_l0_ih ⟨a0,a1,a2⟩ r h
 intro c hc
 refine WpL.step (sN (rsd hc none [oN,oN,nQ ⟨[(8,I (a0.length : Int))],[],[]⟩,oN] [] [(9,.bool (decide (a2 < (a0.length : Int))))] [] (ai (Qer (d := 8) I a0) tv) (ic h (fun a3 h => ?_) fun a3 h => ?_)))
 ·refine sk (sN (bk 1 (sN ?_)))
  obtain ⟨a4,a5,h⟩ := Qel h
  refine rsd hc none [oN,oN,eL (I a4),oN,oN,oN] [9] [(17,.bool (a4 != a1))] [] (ai (ix a5) tv) (ic h (fun a6 h => ?_) fun a6 h => ?_)
  ·obtain rfl := os h
   exact rs0 hc 1 [(4,I (-1))] [] (rt (re [true]))
  exact sk (K1c hc 3 [17,1] [(1,I (wr (a1 + 1)))] [] (ri0 hc 3 (Qe3 (laws_heldIntS_l0_ih _ _ h c hc))))
 obtain rfl := os h
 exact xt 0 (Qdx (Qe4 (iv [])))
def K4n (p : (List Int) × Int) : Option (Int) :=
 match p with
 | (a0,k1) =>
  (K4k (a0,k1,0)) >>= fun fl => match fl with
  | .inl a1 =>
   some a1
  | .inr r =>
   some r
def K4o (p : (List Int) × Int) (r : Int) : Prop :=
 match p with
 | (a0,k1) => Q7a Tryd.prog 9 [sI a0,I k1] (I r) []
theorem K4p : ∀ p r,K4n p = some r → K4o p r := by
 rintro ⟨a0,k1⟩ r h
 unfold K4n at h
 refine b0 Tryd.f9 B9 21 [(0,sI a0),(1,I k1)] fun c hc => (K1g hc 1 [] [] [] (sN (rs0 hc 1 [(0,sI a0),(1,I k1),(5,I 0)] [] (bk 0 ?_))))
 obtain ⟨fl,a1,h⟩ := Qel h
 have hL := K4m _ _ a1 c hc
 refine lp ?_
 rcases fl with a2 | r
 ·refine wl hL ?_
  obtain rfl := os h
  exact Qdz (rs0 hc 2 [(4,I a2)] [] (rt (rq [true])))
 refine WpL.mono hL ?_
 rintro _ _ ⟨rfl,hfin⟩
 obtain rfl := os h
 exact ⟨.inl rfl,hfin⟩
def K4q (aT0 : ByteArray) : Option (Bool) :=
 if (decide ((aT0.size : Int) > 1048576)) = true then
 some true
 else
 (K2r aT0) >>= fun (a0,a1) =>
 (K42 aT0) >>= fun (a2,a3) =>
 ((
 (K49 (a2,a0)) >>= fun a4 =>
 if a4 = true then
 some ((!(a3 == a1)))
 else
 some (true)
 ) : Option (Bool)) >>= fun a5 =>
 if a5 = true then
 some false
 else
 (K4g (a2,1)) >>= fun (a6,a7) =>
 (K4n (a7,1)) >>= fun a8 =>
 if (decide (a8 < 0)) = true then
 some false
 else
 if (a8 != a6) = true then
 some false
 else
 (K42 aT0) >>= fun (a9,b1) =>
 ((
 (K49 (a9,a0)) >>= fun b2 =>
 if b2 = true then
 some ((!(b1 == a1)))
 else
 some (true)
 ) : Option (Bool)) >>= fun b3 =>
 if b3 = true then
 some false
 else
 (K4n (a7,1)) >>= fun b4 =>
 if (decide (b4 < 0)) = true then
 some false
 else
 if (b4 != a6) = true then
 some false
 else
 some true
def K4r (aT0 : ByteArray) (r : Bool) : Prop :=
 Q7a Tryd.prog 3 [.str aT0] (.bool r) []
theorem K4s : ∀ p r,K4q p = some r → K4r p r := by
 rintro aT0 r h
 unfold K4q at h
 refine b0 Tryd.f3 B3 66 [(0,.str aT0)] fun c hc => (K1g hc 1 [] [] [] (sN (K1g hc 3 [] [(13,.bool (decide ((aT0.size : Int) > 1048576)))] [] (ic h (fun a0 h => ?_) fun a0 h => ?_))))
 ·obtain rfl := os h
  exact rs0 hc 1 [(2,.bool true)] [] (rt (rq [true]))
 refine sk ?_
 obtain ⟨⟨a1,a2⟩,a3,h⟩ := Qel h
 refine rsd hc none ([oN,oc (.tup [oI a1,.bool a2])]++nN 5 []) [13] [(3,.rs 1),(4,.bool a2)] [(1,rI a1)] (cq (K2t _ _ a3) K0r tv) ?_
 obtain ⟨⟨a4,a5⟩,a6,h⟩ := Qel h
 refine rsd hc none ([oN,some (.call (.tup [oI a4,.bool a5]) [] 2)]++nN 5 []) [] [(5,.rs 2),(6,.bool a5)] [(1,rI a1),(2,rI a4)] (cq (K44 _ _ a6) K16 tv) (sN (sN ?_))
 obtain ⟨a7,a8,h⟩ := Qel h
 refine wi [6] [(32,.bool a7)] ?_ ?_
 ·replace h := a8
  obtain ⟨a9,b1,h⟩ := Qel h
  rcases is h with ⟨b2,h⟩ | ⟨b2,h⟩
  ·obtain rfl := os h
   exact rj hc none ([oN,oN,oc (.bool a9)]++nN 5 [oF]) (ac (Q7a.args (A1 := [.sl (Q05 (List.map I a4)),.sl (Q05 (List.map I a1))]) (A2 := [sI a4,sI a1]) (by simp only [List.map_nil,Qfd]) (K4b _ _ b1)) K17 (Or.inr rfl : ([2,1] : List Nat) = [] ∨ noSh (.bool a9) = true) (ar 4 (nF b2) tv))
  obtain rfl := os h
  exact rj hc none [oN,oN,oc (.bool a9),oN,oN,o_,o_,o_,oT] (ac (Q7a.args (A1 := [.sl (Q05 (List.map I a4)),.sl (Q05 (List.map I a1))]) (A2 := [sI a4,sI a1]) (by simp only [List.map_nil,Qfd]) (K4b _ _ b1)) K17 (Or.inr rfl : ([2,1] : List Nat) = [] ∨ noSh (.bool a9) = true) (ar 3 (neF (nT b2)) (ai (nT b2) tv)))
 clear a8
 refine ic h (fun b3 h => ?_) fun b3 h => ?_
 ·obtain rfl := os h
  exact rs0 hc 1 [(2,.bool false)] [] (rt (rq [true]))
 refine sk (K1f hc 1 [(0,.str aT0),(3,.rs 1),(4,.bool a2),(5,.rs 2),(7,I 1)] ?_)
 obtain ⟨⟨b4,b5⟩,b6,h⟩ := Qel h
 refine rsd hc none [oN,oN,some (.call (I b4) [oI b5,.undef] 1),oN] [7] [(7,I b4)] [(1,rI a1),(2,rI b5)] (ab (K4i _ _ b6) K18 tv) (K1i hc 1 [] [(8,I 1)] ?_)
 obtain ⟨b7,b8,h⟩ := Qel h
 refine K1h hc none [oN,oN,oc (I b7),oN] [8] [(8,I b7)] (ac (Q7a.args (A1 := [.sl (Q05 (List.map I b5)),I 1]) (A2 := [sI b5,I 1]) (by simp only [List.map_nil,Qfd]) (K4p _ _ b8)) K19 (Or.inr rfl : ([2] : List Nat) = [] ∨ noSh (I b7) = true) tv) (sN (K1i hc 2 [] [(40,.bool (decide (b7 < 0)))] (ic h (fun b9 h => ?_) fun b9 h => ?_)))
 ·obtain rfl := os h
  exact rs0 hc 1 [(2,.bool false)] [] (rt (rq [true]))
 refine sk (sN (K1i hc 3 [40,8] [(43,.bool (b7 != b4))] (ic h (fun c0 h => ?_) fun c0 h => ?_)))
 ·obtain rfl := os h
  exact rs0 hc 1 [(2,.bool false)] [] (rt (rq [true]))
 refine sk ?_
 obtain ⟨⟨c1,c2⟩,c3,h⟩ := Qel h
 refine rs hc none ([oN,some (.call (.tup [oI c1,.bool c2]) [] 3)]++nN 5 []) [(3,.rs 1),(4,.bool a2),(5,.rs 2),(7,I b4),(9,.rs 3),(10,.bool c2)] [(1,rI a1),(2,rI b5),(3,rI c1)] (cq (K44 _ _ c3) K16 tv) (sN (sN ?_))
 obtain ⟨c4,c5,h⟩ := Qel h
 refine Wp.into (x := .normal) (mkS [(5,.rs 2),(7,I b4),(57,.bool c4)] [(2,rI b5)]) ?_ ?_
 ·replace h := c5
  obtain ⟨c6,c7,h⟩ := Qel h
  rcases is h with ⟨c8,h⟩ | ⟨c8,h⟩
  ·obtain rfl := os h
   exact rj hc none ([oN,oN,oc (.bool c6)]++nN 5 [oF]) (ac (Q7a.args (A1 := [.sl (Q05 (List.map I c1)),.sl (Q05 (List.map I a1))]) (A2 := [sI c1,sI a1]) (by simp only [List.map_nil,Qfd]) (K4b _ _ c7)) K17 (Or.inr rfl : ([3,1] : List Nat) = [] ∨ noSh (.bool c6) = true) (ar 4 (nF c8) tv))
  obtain rfl := os h
  exact rj hc none [oN,oN,oc (.bool c6),oN,oN,o_,o_,o_,oT] (ac (Q7a.args (A1 := [.sl (Q05 (List.map I c1)),.sl (Q05 (List.map I a1))]) (A2 := [sI c1,sI a1]) (by simp only [List.map_nil,Qfd]) (K4b _ _ c7)) K17 (Or.inr rfl : ([3,1] : List Nat) = [] ∨ noSh (.bool c6) = true) (ar 3 (neF (nT c8)) (ai (nT c8) tv)))
 clear c5
 refine ic h (fun c9 h => ?_) fun c9 h => ?_
 ·obtain rfl := os h
  exact rs0 hc 1 [(2,.bool false)] [] (rt (rq [true]))
 refine sk (K1i hc 1 [57] [(8,I 1)] ?_)
 obtain ⟨d0,d1,h⟩ := Qel h
 refine rsd hc none [oN,oN,oc (I d0),oN] [8,5] [(8,I d0)] [] (ac (Q7a.args (A1 := [.sl (Q05 (List.map I b5)),I 1]) (A2 := [sI b5,I 1]) (by simp only [List.map_nil,Qfd]) (K4p _ _ d1)) K19 (Or.inr rfl : ([2] : List Nat) = [] ∨ noSh (I d0) = true) tv) (sN (K1g hc 2 [] [(62,.bool (decide (d0 < 0)))] [] (ic h (fun d2 h => ?_) fun d2 h => ?_)))
 ·obtain rfl := os h
  exact rs0 hc 1 [(2,.bool false)] [] (rt (rq [true]))
 refine sk (sN (rs0 hc 3 [(65,.bool (d0 != b4))] [] (ic h (fun d3 h => ?_) fun d3 h => ?_)))
 ·obtain rfl := os h
  exact rs0 hc 1 [(2,.bool false)] [] (rt (rq [true]))
 obtain rfl := os h
 exact sk (rs0 hc 1 [(2,.bool true)] [] (rt (rq [true])))
end Go.Am
