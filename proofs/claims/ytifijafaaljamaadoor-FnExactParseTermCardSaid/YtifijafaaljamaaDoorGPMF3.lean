/- Walks, printed. -/
import Derived.Test.YtifijafaaljamaaDoorGPMF0
set_option linter.unusedVariables false
set_option linter.unusedSimpArgs false
set_option maxRecDepth 100000
namespace Go.Am
open Go Go.Proofs
def K7y : Option (List (List Nat)) := rx [[0],[1],[2],[3],[0],[0,4],[0,4,5],[0,4,5,6],[0,4,5,6,7],[9],[10],[11],[12],[13],[14],[11],[11,15],[17],[18],[19],[20],[21],[22],[23],[20],[20,24],[20,24,25],[20,24,25,26],[28],[29],[30],[31],[32],[33],[34],[35],[32],[32,36],[32,36,37],[32,36,37,38],[40],[41],[42]]
def K7z : Option (List (List Nat)) := rx [[0],[1],[2],[3],[4],[3],[3,5],[3,5,6],[3,5,6,7],[3],[3],[3,10],[3,10,11],[3,10,11,12],[3,5,6,7,8,9,10,11,12,13],[15],[16]]
def K80 (p : K07 × Int) : Option (Int) :=
 match p with
 | (r0,a0) =>
  ((
  if (decide (a0 < (r0.fs.size : Int))) = true then
  if (decide (a0 < (wr (r0.fat + 3)))) = true then
  (Qft r0.fs a0) >>= fun a1 =>
  if (decide (a1 ≥ 48)) = true then
  (Qft r0.fs a0) >>= fun a2 =>
  some ((decide (a2 ≤ 57)))
  else
  some (false)
  else
  some (false)
  else
  some (false)
  ) : Option (Bool)) >>= fun a3 =>
  if a3 = true then
  K80 (r0,(wr (a0 + 1)))
  else
  some (a0)
 partial_fixpoint
def K81 (p : K07 × Int) (fl : Int) : Prop :=
 match p with
 | (r0,a0) => ∀ c : Ctx,c.nt = 95 → WpL Tryd.prog c (cl (cl (cl (cr (cr B37))))) (K7x c r0 fl) (mkS [(0,.ra 1000 0),(3,I r0.fat)] [(1000,.box [.str r0.fs,I a0,.bool r0.ffail,I r0.fleft])])
theorem K82 : ∀ p r,K80 p = some r → K81 p r := by
 refine K80.partial_correctness K81 ?_
 rintro impl_readernumber_l0_f impl_readernumber_l0_ih ⟨r0,a0⟩ r h
 intro c hc
 refine WpL.step (sN (sN ?_))
 obtain ⟨a1,a2,h⟩ := Qel h
 refine wi [] [(52,.bool a1)] ?_ ?_
 ·replace h := a2
  rcases is h with ⟨a3,h⟩ | ⟨a3,h⟩
  ·rcases is h with ⟨a4,h⟩ | ⟨a4,h⟩
   ·obtain ⟨a5,a6,h⟩ := Qel h
    rcases is h with ⟨a7,h⟩ | ⟨a7,h⟩
    ·obtain ⟨a8,a9,h⟩ := Qel h
     obtain rfl := os h
     exact rj hc K7y (nN 18 ([oT]++nN 9 ([nQ ⟨[(38,.int .u8 a5)],[],[]⟩,oN,oT]++nN 9 [nQ ⟨[(50,.int .u8 a8)],[],[]⟩,oN,oT]))) (ar 8 a3 (ar 9 a4 (ab (Qfv (d := 38) a6) (Qfu a6) (ar 2 a4 (ar 9 a7 (ab (Qfv (d := 50) a9) (Qfu a9) (ar 2 a7 tv)))))))
    obtain rfl := os h
    exact rj hc K7y (nN 18 ([oT]++nN 9 ([nQ ⟨[(38,.int .u8 a5)],[],[]⟩,oN,oT,oN]++n_ 10 [oF]))) (ar 8 a3 (ar 9 a4 (ab (Qfv (d := 38) a6) (Qfu a6) (ar 2 a4 (ar 10 (neT a7) (ai a7 tv))))))
   obtain rfl := os h
   exact rj hc K7y (nN 18 ([oT,oN]++n_ 10 ([oF,oN]++n_ 10 [oF]))) (ar 8 a3 (ar 10 (neT a4) (ai a4 (ar 10 (neT fF) (ai fF tv)))))
  obtain rfl := os h
  exact rj hc K7y (nN 11 (n_ 7 ([oF,oN]++n_ 10 ([oF,oN]++n_ 10 [oF])))) (ar 7 (neT a3) (ai a3 (ar 10 (neT fF) (ai fF (ar 10 (neT fF) (ai fF tv))))))
 clear a2
 refine ic h (fun b1 h => ?_) fun b1 h => ?_
 ·exact sk (bk 1 (ri0 hc 8 (Qe3 (impl_readernumber_l0_ih _ _ h c hc))))
 obtain rfl := os h
 exact xt 0 (Qdx (Qe4 (iv [])))
def K83 (r0 : K07) : Option (Int × K07) :=
 (K80 (r0,r0.fat)) >>= fun a0 =>
 (Qev r0.fs (some r0.fat) (some a0)) >>= fun a1 =>
 (Q92 a1) >>= fun (a2,a3) =>
 ((
 if a3 = true then
 some (true)
 else
 (Q93 a2) >>= fun a4 =>
 (Qev r0.fs (some r0.fat) (some a0)) >>= fun a5 =>
 some ((!(a4.toList == a5.toList)))
 ) : Option (Bool)) >>= fun a6 =>
 if a6 = true then
 some (0,(K07.mk r0.fs a0 true r0.fleft))
 else
 some (a2,(K07.mk r0.fs a0 r0.ffail r0.fleft))
def K84 (r0 : K07) (r : Int × K07) : Prop :=
 Q7a Tryd.prog 37 [.optr [.str r0.fs,I r0.fat,.bool r0.ffail,I r0.fleft]] (I r.1) [.optr [.str r.2.fs,I r.2.fat,.bool r.2.ffail,I r.2.fleft]]
theorem K85 : ∀ p r,K83 p = some r → K84 p r := by
 rintro r0 r h
 unfold K83 at h
 refine Q7a.bodyO K1k (fn := Tryd.f37) (code := B37) (by kernel_rfl) (by kernel_rfl) (by kernel_rfl) (nt := 95) (by kernel_rfl) (by kernel_rfl) (T := [(0,.ra 1000 0)]) (O := [(1000,.box [.str r0.fs,I r0.fat,.bool r0.ffail,I r0.fleft])]) (by kernel_rfl) (by kernel_rfl) (fun c hc => ?_)
 refine K3f hc 1 [(0,.ra 1000 0)] (K3f hc 5 [(0,.ra 1000 0),(3,I r0.fat)] (sN (bk 0 ?_)))
 obtain ⟨a0,a1,h⟩ := Qel h
 have hL := K82 _ _ a1 c hc
 refine lp (wl hL (Qdz ?_))
 obtain ⟨a2,a3,⟨a4,a5⟩,a6,h⟩ := bq2 h
 refine K3h hc (rx [[0],[1],[2],[3],[0],[0],[0,5],[0,5,6],[0,5,6,7],[9],[10],[11],[12],[12],[13],[15]]) (nN 9 ([nQ ⟨[(70,.str a2)],[],[]⟩,oc (.tup [I a4,.err a5])]++nN 5 [])) [] [(4,I a4),(5,.err a5)] (ab (Qex (d := 70) a3) (Qew a3) (cq (K05 _ _ a6) K2i tv)) (sN (sN ?_))
 obtain ⟨a7,a8,h⟩ := Qel h
 refine wi [5,3] [(90,.bool a7)] ?_ ?_
 ·replace h := a8
  rcases is h with ⟨a9,h⟩ | ⟨a9,h⟩
  ·obtain rfl := os h
   exact rj hc K7z ([oN,oN,oN]++n_ 13 [oT]) (ai K1l (ar 13 (neF a9) (ai a9 tv)))
  obtain ⟨b1,b2,b3,b4,h⟩ := bq2 h
  obtain rfl := os h
  exact rj hc K7z (nN 4 ([oc (.str b1)]++nN 9 [nQ ⟨[(88,.str b3)],[],[]⟩,oN,oF])) (ai K1l (ar 2 a9 (cq (K04 _ _ b2) K2j (ar 10 a9 (ab (Qex (d := 88) b4) (Qew b4) (ar 2 a9 tv))))))
 clear a8
 refine ic h (fun b5 h => ?_) fun b5 h => ?_
 ·obtain rfl := os h
  exact rs0 hc 4 [] [(1000,.box [.str r0.fs,I a0,.bool true,I r0.fleft])] (K3f hc 1 [(2,I 0)] (rt (rr [true])))
 obtain rfl := os h
 exact sk (K3f hc 2 [(2,I a4)] (rt (rr [true])))
def K86 (p : Int × Int × Int) : Option (Bool) :=
 match p with
 | (n0,low1,high2) =>
  ((
  if (decide (n0 ≥ low1)) = true then
  some ((decide (n0 ≤ high2)))
  else
  some (false)
  ) : Option (Bool)) >>= fun a0 =>
  some a0
def K87 (p : Int × Int × Int) (r : Bool) : Prop :=
 match p with
 | (n0,low1,high2) => Q7a Tryd.prog 30 [I n0,I low1,I high2] (.bool r) []
theorem K88 : ∀ p r,K86 p = some r → K87 p r := by
 rintro ⟨n0,low1,high2⟩ r h
 unfold K86 at h
 refine b0 Tryd.f30 B30 15 [(0,I n0),(1,I low1),(2,I high2)] fun c hc => (K3g hc 1 [] [] [] (sN ?_))
 obtain ⟨a0,a1,h⟩ := Qel h
 refine Wp.into (x := .normal) (mkS [(6,.bool a0)] []) ?_ ?_
 ·replace h := a1
  rcases is h with ⟨a2,h⟩ | ⟨a2,h⟩
  ·obtain rfl := os h
   exact rj hc none (nN 7 [oT,oN]) (ar 4 a2 tv)
  obtain rfl := os h
  exact rj hc none (nN 4 [o_,o_,o_,oF,oN]) (ar 3 (neT a2) (ai a2 tv))
 clear a1
 obtain rfl := os h
 exact rt (rq [true])
def K89 (op0 : Int) : Option (K08 × Bool) :=
 (K86 (op0,0,12)) >>= fun a0 =>
 if a0 = true then
 (idx [(K08.mk (ByteArray.mk #[120]) 0 false false),(K08.mk ByteArray.empty 0 false false),(K08.mk (ByteArray.mk #[97,100,100]) 2 false false),(K08.mk (ByteArray.mk #[105,102]) 3 false false),(K08.mk (ByteArray.mk #[112,97,105,114]) 2 false false),(K08.mk (ByteArray.mk #[115,112,108,105,116]) 2 true false),(K08.mk (ByteArray.mk #[108,101,102,116]) 1 false true),(K08.mk (ByteArray.mk #[114,105,103,104,116]) 1 false true),(K08.mk (ByteArray.mk #[99,97,115,101]) 3 true false),(K08.mk (ByteArray.mk #[102,117,110]) 1 true true),(K08.mk (ByteArray.mk #[97,112,112]) 2 false false),(K08.mk (ByteArray.mk #[98,111,120]) 1 true false),(K08.mk (ByteArray.mk #[111,112,101,110]) 2 true false)] op0) >>= fun a1 =>
 some (a1,true)
 else
 some ((K08.mk ByteArray.empty 0 false false),false)
def K8a (op0 : Int) (r : K08 × Bool) : Prop :=
 Q7a Tryd.prog 38 [I op0] (.tup [.agg [.str r.1.fword,I r.1.fkids,.bool r.1.fgrade,.bool r.1.ftyped],.bool r.2]) []
theorem K8b : ∀ p r,K89 p = some r → K8a p r := by
 rintro op0 r h
 unfold K89 at h
 refine b0 Tryd.f38 B38 25 [(0,I op0)] fun c hc => (rsd hc none [nW 1,oN] [] [(2,.ra 1 0)] [(1,.box [.str ByteArray.empty,I 0,.bool false,.bool false])] tv (sN ?_))
 obtain ⟨a0,a1,h⟩ := Qel h
 refine K3h hc none [oN,oc (.bool a0),oN] [] [(6,.bool (!a0))] (cq (K88 _ _ a1) K2l tv) ?_
 rcases is h with ⟨a2,h⟩ | ⟨a2,h⟩
 ·refine cF (!a0) (nF a2) (sk ?_)
  obtain ⟨a3,a4,h⟩ := Qel h
  obtain rfl := os h
  exact rsd hc none (nN 13 [mK 2,oN,oN,eL (.agg [.str a3.fword,I a3.fkids,.bool a3.fgrade,.bool a3.ftyped]),oN,oN]) [6,0] [(3,.bool true)] [(1,.box [.str a3.fword,I a3.fkids,.bool a3.fgrade,.bool a3.ftyped])] (ab (Qeq (enc := K0k) a4) (Qep (enc := K0k) (x := .agg [.str a3.fword,I a3.fkids,.bool a3.fgrade,.bool a3.ftyped]) a4 (K0v a3)).2 tv) (rt (rq [true,true]))
 refine cT (!a0) (nT a2) ?_
 obtain rfl := os h
 exact K3i hc 3 [6,0] [(3,.bool false)] (rt (rq [true,true]))
def K8c (p : K07 × ByteArray) : Option (K07) :=
 match p with
 | (r0,t1) =>
  (K7u (r0,t1)) >>= fun (a0,a1) =>
  ((
  if a0 = true then
  some (a1.ffail)
  else
  some (true)
  ) : Option (Bool)) >>= fun a2 =>
  some (K07.mk a1.fs a1.fat a2 a1.fleft)
def K8d (p : K07 × ByteArray) (r : K07) : Prop :=
 match p with
 | (r0,t1) => Q7a Tryd.prog 39 [.optr [.str r0.fs,I r0.fat,.bool r0.ffail,I r0.fleft],.str t1] (.tup []) [.optr [.str r.fs,I r.fat,.bool r.ffail,I r.fleft],.undef]
theorem K8e : ∀ p r,K8c p = some r → K8d p r := by
 rintro ⟨r0,t1⟩ r h
 unfold K8c at h
 refine Q7a.bodyO K1k (fn := Tryd.f39) (code := B39) (by kernel_rfl) (by kernel_rfl) (by kernel_rfl) (nt := 11) (by kernel_rfl) (by kernel_rfl) (T := [(0,.ra 1000 0),(1,.str t1)]) (O := [(1000,.box [.str r0.fs,I r0.fat,.bool r0.ffail,I r0.fleft])]) (by kernel_rfl) (by kernel_rfl) (fun c hc => ?_)
 obtain ⟨⟨a0,a1⟩,a2,h⟩ := Qel h
 refine rs hc none [oN,oN,some (.call (.bool a0) [.optr [.str a1.fs,I a1.fat,.bool a1.ffail,I a1.fleft],.undef] 1),oN] [(0,.ra 1000 0),(7,.bool (!a0))] [(1000,.box [.str a1.fs,I a1.fat,.bool a1.ffail,I a1.fleft])] (ab (K7w _ _ a2) K2h tv) ?_
 obtain ⟨a3,a4,h⟩ := Qel h
 refine Wp.into (x := .normal) (mkS [] [(1000,.box [.str a1.fs,I a1.fat,.bool a3,I a1.fleft])]) ?_ ?_
 ·replace h := a4
  rcases is h with ⟨a5,h⟩ | ⟨a5,h⟩
  ·refine cF (!a0) (nF a5) ?_
   obtain rfl := os h
   exact sk (iv [])
  refine cT (!a0) (nT a5) ?_
  obtain rfl := os h
  exact rj0 hc 4
 clear a4
 obtain rfl := os h
 exact Qei.normal (fl := []) (by kernel_rfl)
def K8f (r0 : K07) : Option (Int × K07) :=
 (K7u (r0,(ByteArray.mk #[63]))) >>= fun (a0,a1) =>
 if a0 = true then
 some ((-1),a1)
 else
 (K83 a1) >>= fun (a2,a3) =>
 ((
 if (decide (a2 ≥ 16)) = true then
 some (true)
 else
 some (a3.ffail)
 ) : Option (Bool)) >>= fun a4 =>
 some (a2,(K07.mk a3.fs a3.fat a4 a3.fleft))
def K8g (r0 : K07) (r : Int × K07) : Prop :=
 Q7a Tryd.prog 40 [.optr [.str r0.fs,I r0.fat,.bool r0.ffail,I r0.fleft]] (I r.1) [.optr [.str r.2.fs,I r.2.fat,.bool r.2.ffail,I r.2.fleft]]
theorem K8h : ∀ p r,K8f p = some r → K8g p r := by
 rintro r0 r h
 unfold K8f at h
 refine Q7a.bodyO K1k (fn := Tryd.f40) (code := B40) (by kernel_rfl) (by kernel_rfl) (by kernel_rfl) (nt := 14) (by kernel_rfl) (by kernel_rfl) (T := [(0,.ra 1000 0)]) (O := [(1000,.box [.str r0.fs,I r0.fat,.bool r0.ffail,I r0.fleft])]) (by kernel_rfl) (by kernel_rfl) (fun c hc => ?_)
 refine K3f hc 1 [(0,.ra 1000 0)] (sN ?_)
 obtain ⟨⟨a0,a1⟩,a2,h⟩ := Qel h
 refine rsd hc none [oN,some (.call (.bool a0) [.optr [.str a1.fs,I a1.fat,.bool a1.ffail,I a1.fleft],.undef] 1)] [] [(5,.bool a0)] [(1000,.box [.str a1.fs,I a1.fat,.bool a1.ffail,I a1.fleft])] (ab (K7w _ _ a2) K2h tv) (ic h (fun a3 h => ?_) fun a3 h => ?_)
 ·obtain rfl := os h
  exact K3f hc 1 [(2,I (-1))] (rt (rr [true]))
 refine sk ?_
 obtain ⟨⟨a4,a5⟩,a6,h⟩ := Qel h
 refine rsd hc none [oN,some (.call (I a4) [.optr [.str a5.fs,I a5.fat,.bool a5.ffail,I a5.fleft]] 1),oN] [5] [(3,I a4)] [(1000,.box [.str a5.fs,I a5.fat,.bool a5.ffail,I a5.fleft])] (ab (K85 _ _ a6) K2k tv) (sN (K3i hc 2 [] [(9,.bool (decide (a4 ≥ 16)))] ?_))
 obtain ⟨a7,a8,h⟩ := Qel h
 refine Wp.into (x := .normal) (mkS [(3,I a4)] [(1000,.box [.str a5.fs,I a5.fat,.bool a7,I a5.fleft])]) ?_ ?_
 ·replace h := a8
  refine ic h (fun a9 h => ?_) fun a9 h => ?_
  ·obtain rfl := os h
   exact rj0 hc 4
  obtain rfl := os h
  exact sk (iv [])
 clear a8
 obtain rfl := os h
 exact K3f hc 2 [(2,I a4)] (rt (rr [true]))
def K8i (p : K07 × Int × Int) : Option (Int × K07) :=
 match p with
 | (r0,closed1,open2) =>
  (K8f r0) >>= fun (a0,a1) =>
  (K8c (a1,(ByteArray.mk #[46]))) >>= fun a2 =>
  if (decide (a0 < 0)) = true then
  some (open2,a2)
  else
  some ((wr (closed1 + a0)),a2)
def K8j (p : K07 × Int × Int) (r : Int × K07) : Prop :=
 match p with
 | (r0,closed1,open2) => Q7a Tryd.prog 29 [.optr [.str r0.fs,I r0.fat,.bool r0.ffail,I r0.fleft],I closed1,I open2] (I r.1) [.optr [.str r.2.fs,I r.2.fat,.bool r.2.ffail,I r.2.fleft],.undef,.undef]
theorem K8k : ∀ p r,K8i p = some r → K8j p r := by
 rintro ⟨r0,closed1,open2⟩ r h
 unfold K8i at h
 refine Q7a.bodyO K1k (fn := Tryd.f29) (code := B29) (by kernel_rfl) (by kernel_rfl) (by kernel_rfl) (nt := 18) (by kernel_rfl) (by kernel_rfl) (T := [(0,.ra 1000 0),(1,I closed1),(2,I open2)]) (O := [(1000,.box [.str r0.fs,I r0.fat,.bool r0.ffail,I r0.fleft])]) (by kernel_rfl) (by kernel_rfl) (fun c hc => ?_)
 refine K3f hc 1 [(0,.ra 1000 0),(1,I closed1),(2,I open2)] ?_
 obtain ⟨⟨a0,a1⟩,a2,h⟩ := Qel h
 refine rsd hc none [oN,some (.call (I a0) [.optr [.str a1.fs,I a1.fat,.bool a1.ffail,I a1.fleft]] 1),oN] [] [(7,I a0)] [(1000,.box [.str a1.fs,I a1.fat,.bool a1.ffail,I a1.fleft])] (ab (K8h _ _ a2) K2o tv) ?_
 obtain ⟨a3,a4,h⟩ := Qel h
 refine rsd hc none [oN,some (.call (.tup []) [.optr [.str a3.fs,I a3.fat,.bool a3.ffail,I a3.fleft],.undef] 1)] [0] [] [(1000,.box [.str a3.fs,I a3.fat,.bool a3.ffail,I a3.fleft])] (ab (K8e _ _ a4) K2n tv) (sN (K3i hc 2 [] [(13,.bool (decide (a0 < 0)))] (ic h (fun a5 h => ?_) fun a5 h => ?_)))
 ·obtain rfl := os h
  exact K3f hc 2 [(6,I open2)] (rt (rr [true]))
 obtain rfl := os h
 exact sk (K3f hc 4 [(6,I (wr (closed1 + a0)))] (rt (rr [true])))
def K8l (c : Ctx) : (List Int) × ByteArray × Int × Bool × Int → Exit → Q0d → Prop
 | (a0,a1,a2,a3,a4) => Qe7 c (.exit 0) (mkS [(3,.rs 12)] [(12,rI a0),(1000,.box [.str a1,I a2,.bool a3,I a4])])
def K8m (p : ByteArray × Int × Bool × Int × (List Int) × Int) : Option ((List Int) × ByteArray × Int × Bool × Int) :=
 match p with
 | (a0,a1,a2,a3,a4,a5) =>
  ((
  if (decide (a5 > 0)) = true then
  if a2 = true then
  some (false)
  else
  some ((decide ((a4.length : Int) ≤ 40)))
  else
  some (false)
  ) : Option (Bool)) >>= fun a6 =>
  if a6 = true then
  (K7u ((K07.mk a0 a1 a2 a3),(ByteArray.mk #[110]))) >>= fun (a7,a8) =>
  ((
  if a7 = true then
  (Qey (a4.length + [0].length) 8) >>= fun _ =>
  some ((a8.fs,a8.fat,a8.ffail,a8.fleft,(a4 ++ [0]),a5))
  else
  (K7u (a8,(ByteArray.mk #[42]))) >>= fun (a9,b1) =>
  ((
  if a9 = true then
  (Qey (a4.length + [1].length) 8) >>= fun _ =>
  some ((b1.fs,b1.fat,b1.ffail,b1.fleft,(a4 ++ [1]),(wr (a5 + 2))))
  else
  (K7u (b1,(ByteArray.mk #[43]))) >>= fun (b2,b3) =>
  ((
  if b2 = true then
  (Qey (a4.length + [2].length) 8) >>= fun _ =>
  some ((b3.fs,b3.fat,b3.ffail,b3.fleft,(a4 ++ [2]),(wr (a5 + 2))))
  else
  (K7u (b3,(ByteArray.mk #[62]))) >>= fun (b4,b5) =>
  ((
  if b4 = true then
  (K8i (b5,3,35)) >>= fun (b6,b7) =>
  (Qey (a4.length + [b6].length) 8) >>= fun _ =>
  some ((b7.fs,b7.fat,b7.ffail,b7.fleft,(a4 ++ [b6]),(wr (a5 + 2))))
  else
  (K7u (b5,(ByteArray.mk #[33]))) >>= fun (b8,b9) =>
  ((
  if b8 = true then
  (K8i (b9,19,36)) >>= fun (c0,c1) =>
  (Qey (a4.length + [c0].length) 8) >>= fun _ =>
  some ((c1.fs,c1.fat,c1.ffail,c1.fleft,(a4 ++ [c0]),(wr (a5 + 1))))
  else
  some ((b9.fs,b9.fat,true,b9.fleft,a4,a5))
  ) : Option (ByteArray × Int × Bool × Int × (List Int) × Int)) >>= fun (c2,c3,c4,c5,c6,c7) =>
  some ((c2,c3,c4,c5,c6,c7))
  ) : Option (ByteArray × Int × Bool × Int × (List Int) × Int)) >>= fun (c8,c9,d0,d1,d2,d3) =>
  some ((c8,c9,d0,d1,d2,d3))
  ) : Option (ByteArray × Int × Bool × Int × (List Int) × Int)) >>= fun (d4,d5,d6,d7,d8,d9) =>
  some ((d4,d5,d6,d7,d8,d9))
  ) : Option (ByteArray × Int × Bool × Int × (List Int) × Int)) >>= fun (e0,e1,e2,e3,e4,e5) =>
  some ((e0,e1,e2,e3,e4,e5))
  ) : Option (ByteArray × Int × Bool × Int × (List Int) × Int)) >>= fun (e6,e7,e8,e9,f0,f1) =>
  K8m (e6,e7,e8,e9,f0,(wr (f1 - 1)))
  else
  some ((a4,a0,a1,a2,a3))
 partial_fixpoint
def K8n (p : ByteArray × Int × Bool × Int × (List Int) × Int) (fl : (List Int) × ByteArray × Int × Bool × Int) : Prop :=
 match p with
 | (a0,a1,a2,a3,a4,a5) => ∀ c : Ctx,c.nt = 67 → WpL Tryd.prog c (cl (cl (cr (cl (cr (cr B16)))))) (K8l c fl) (mkS [(0,.ra 1000 0),(3,.rs 12),(4,I a5)] [(12,rI a4),(1000,.box [.str a0,I a1,.bool a2,I a3])])
theorem K8o : ∀ p r,K8m p = some r → K8n p r := by
 refine K8m.partial_correctness K8n ?_
 rintro impl_readertyp_l0_f impl_readertyp_l0_ih ⟨a0,a1,a2,a3,a4,a5⟩ r h
 intro c hc
 refine WpL.step (sN (sN ?_))
 obtain ⟨a6,a7,h⟩ := Qel h
 refine wi [] [(18,.bool a6)] ?_ ?_
 ·replace h := a7
  rcases is h with ⟨a8,h⟩ | ⟨a8,h⟩
  ·rcases is h with ⟨a9,h⟩ | ⟨a9,h⟩
   ·obtain rfl := os h
    exact rj hc none (nN 8 [oT,oN,o_,o_,o_,oF]) (ar 6 a8 (ar 3 (neT (nF a9)) (ai (nF a9) tv)))
   obtain rfl := os h
   exact rj hc none (nN 8 [oT,oN,oN,nQ ⟨[(16,I (a4.length : Int))],[],[]⟩,oN,oT]) (ar 6 a8 (ar 2 (nT a9) (ai (Qer (d := 16) I a4) (ar 2 (nT a9) tv))))
  obtain rfl := os h
  exact rj hc none ([oN,oN,oN]++n_ 5 [oF,oN,o_,o_,o_,oF]) (ar 5 (neT a8) (ai a8 (ar 3 (neT fF) (ai fF tv))))
 clear a7
 refine ic h (fun b1 h => ?_) fun b1 h => ?_
 ·refine sk (sN (bk 1 (bk 2 ?_)))
  obtain ⟨⟨b2,b3⟩,b4,h⟩ := Qel h
  refine rsd hc none [oN,some (.call (.bool b2) [.optr [.str b3.fs,I b3.fat,.bool b3.ffail,I b3.fleft],.undef] 1),oN] [18] [(24,.bool b2)] [(12,rI a4),(1000,.box [.str b3.fs,I b3.fat,.bool b3.ffail,I b3.fleft])] (ab (K7w _ _ b4) K2h tv) ?_
  obtain ⟨⟨b5,b6,b7,b8,b9,c0⟩,c1,h⟩ := Qel h
  refine Wp.into (x := .normal) (mkS [(0,.ra 1000 0),(3,.rs 24),(4,I c0)] [(24,rI b9),(1000,.box [.str b5,I b6,.bool b7,I b8])]) ?_ ?_
  ·replace h := c1
   refine ic h (fun c2 h => ?_) fun c2 h => ?_
   ·obtain ⟨_,c3,h⟩ := Qel h
    obtain ⟨rfl,hq0⟩ := Prod.mk.inj (os h)
    obtain ⟨rfl,hq1⟩ := Prod.mk.inj (hq0)
    obtain ⟨rfl,hq2⟩ := Prod.mk.inj (hq1)
    obtain ⟨rfl,hq3⟩ := Prod.mk.inj (hq2)
    obtain ⟨rfl,rfl⟩ := Prod.mk.inj (hq3)
    exact rj hc none [oN,mK 23,some (.eqv (.mk 24 true) ⟨[(29,.rs 24)],[(24,some (rI (a4 ++ [0]))),(12,none),(23,none)],[24]⟩),oN] (ab (congrArg (fun z => (⟨[(29,.rs 24)],[(24,some (.arr z)),(12,none),(23,none)],[24]⟩ : Wr)) ((List.map_append).symm : (List.map I a4) ++ (List.map I [0]) = List.map I (a4 ++ [0]))) (Qez (enc1 := I) (enc2 := I) (e1 := a4) (e2 := [0]) (sz := 1) Qf8 Qf8 c3) tv)
   obtain ⟨⟨c4,c5⟩,c6,h⟩ := Qel h
   refine rsd hc none [oN,some (.call (.bool c4) [.optr [.str c5.fs,I c5.fat,.bool c5.ffail,I c5.fleft],.undef] 1),oN] [24] [(30,.bool c4)] [(12,rI a4),(1000,.box [.str c5.fs,I c5.fat,.bool c5.ffail,I c5.fleft])] (ab (K7w _ _ c6) K2h tv) ?_
   obtain ⟨⟨c7,c8,c9,d0,d1,d2⟩,d3,h⟩ := Qel h
   refine Wp.into (x := .normal) (mkS [(0,.ra 1000 0),(3,.rs 26),(4,I d2)] [(26,rI d1),(1000,.box [.str c7,I c8,.bool c9,I d0])]) ?_ ?_
   ·replace h := d3
    refine ic h (fun d4 h => ?_) fun d4 h => ?_
    ·obtain ⟨_,d5,h⟩ := Qel h
     refine rsd hc none [oN,mK 25,some (.eqv (.mk 26 true) ⟨[(35,.rs 26)],[(26,some (rI (a4 ++ [1]))),(12,none),(25,none)],[26]⟩),oN] [30,3] [(3,.rs 26)] [(26,rI (a4 ++ [1])),(1000,.box [.str c5.fs,I c5.fat,.bool c5.ffail,I c5.fleft])] (ab (congrArg (fun z => (⟨[(35,.rs 26)],[(26,some (.arr z)),(12,none),(25,none)],[26]⟩ : Wr)) ((List.map_append).symm : (List.map I a4) ++ (List.map I [1]) = List.map I (a4 ++ [1]))) (Qez (enc1 := I) (enc2 := I) (e1 := a4) (e2 := [1]) (sz := 1) Qf8 Qf8 d5) tv) ?_
     obtain ⟨rfl,hq0⟩ := Prod.mk.inj (os h)
     obtain ⟨rfl,hq1⟩ := Prod.mk.inj (hq0)
     obtain ⟨rfl,hq2⟩ := Prod.mk.inj (hq1)
     obtain ⟨rfl,hq3⟩ := Prod.mk.inj (hq2)
     obtain ⟨rfl,rfl⟩ := Prod.mk.inj (hq3)
     exact rj0 hc 3
    obtain ⟨⟨d6,d7⟩,d8,h⟩ := Qel h
    refine rsd hc none [oN,some (.call (.bool d6) [.optr [.str d7.fs,I d7.fat,.bool d7.ffail,I d7.fleft],.undef] 1),oN] [30] [(38,.bool d6)] [(12,rI a4),(1000,.box [.str d7.fs,I d7.fat,.bool d7.ffail,I d7.fleft])] (ab (K7w _ _ d8) K2h tv) ?_
    obtain ⟨⟨d9,e0,e3,e4,e5,e6⟩,e7,h⟩ := Qel h
    refine Wp.into (x := .normal) (mkS [(0,.ra 1000 0),(3,.rs 28),(4,I e6)] [(28,rI e5),(1000,.box [.str d9,I e0,.bool e3,I e4])]) ?_ ?_
    ·replace h := e7
     refine ic h (fun e8 h => ?_) fun e8 h => ?_
     ·obtain ⟨_,e9,h⟩ := Qel h
      refine rsd hc none [oN,mK 27,some (.eqv (.mk 28 true) ⟨[(43,.rs 28)],[(28,some (rI (a4 ++ [2]))),(12,none),(27,none)],[28]⟩),oN] [38,3] [(3,.rs 28)] [(28,rI (a4 ++ [2])),(1000,.box [.str d7.fs,I d7.fat,.bool d7.ffail,I d7.fleft])] (ab (congrArg (fun z => (⟨[(43,.rs 28)],[(28,some (.arr z)),(12,none),(27,none)],[28]⟩ : Wr)) ((List.map_append).symm : (List.map I a4) ++ (List.map I [2]) = List.map I (a4 ++ [2]))) (Qez (enc1 := I) (enc2 := I) (e1 := a4) (e2 := [2]) (sz := 1) Qf8 Qf8 e9) tv) ?_
      obtain ⟨rfl,hq0⟩ := Prod.mk.inj (os h)
      obtain ⟨rfl,hq1⟩ := Prod.mk.inj (hq0)
      obtain ⟨rfl,hq2⟩ := Prod.mk.inj (hq1)
      obtain ⟨rfl,hq3⟩ := Prod.mk.inj (hq2)
      obtain ⟨rfl,rfl⟩ := Prod.mk.inj (hq3)
      exact rj0 hc 3
     obtain ⟨⟨f0,f1⟩,f2,h⟩ := Qel h
     refine rsd hc none [oN,some (.call (.bool f0) [.optr [.str f1.fs,I f1.fat,.bool f1.ffail,I f1.fleft],.undef] 1),oN] [38] [(46,.bool f0)] [(12,rI a4),(1000,.box [.str f1.fs,I f1.fat,.bool f1.ffail,I f1.fleft])] (ab (K7w _ _ f2) K2h tv) ?_
     obtain ⟨⟨f3,f4,f5,f6,f7,f8⟩,f9,h⟩ := Qel h
     refine Wp.into (x := .normal) (mkS [(0,.ra 1000 0),(3,.rs 30),(4,I f8)] [(30,rI f7),(1000,.box [.str f3,I f4,.bool f5,I f6])]) ?_ ?_
     ·replace h := f9
      refine ic h (fun g0 h => ?_) fun g0 h => ?_
      ·obtain ⟨⟨g1,g2⟩,g3,h⟩ := Qel h
       obtain ⟨_,g4,h⟩ := Qel h
       refine rs hc none [oN,oN,some (.call (I g1) [.optr [.str g2.fs,I g2.fat,.bool g2.ffail,I g2.fleft],.undef,.undef] 1),mK 29,some (.eqv (.mk 30 true) ⟨[(53,.rs 30)],[(30,some (rI (a4 ++ [g1]))),(12,none),(29,none)],[30]⟩),oN] [(0,.ra 1000 0),(3,.rs 30),(4,I a5)] [(30,rI (a4 ++ [g1])),(1000,.box [.str g2.fs,I g2.fat,.bool g2.ffail,I g2.fleft])] (ad (K8k _ _ g3) K2p (congrArg (fun z => (⟨[(53,.rs 30)],[(30,some (.arr z)),(12,none),(29,none)],[30]⟩ : Wr)) ((List.map_append).symm : (List.map I a4) ++ (List.map I [g1]) = List.map I (a4 ++ [g1]))) (Qez (enc1 := I) (enc2 := I) (e1 := a4) (e2 := [g1]) (sz := 1) Qf8 Qf8 g4) tv) ?_
       obtain ⟨rfl,hq0⟩ := Prod.mk.inj (os h)
       obtain ⟨rfl,hq1⟩ := Prod.mk.inj (hq0)
       obtain ⟨rfl,hq2⟩ := Prod.mk.inj (hq1)
       obtain ⟨rfl,hq3⟩ := Prod.mk.inj (hq2)
       obtain ⟨rfl,rfl⟩ := Prod.mk.inj (hq3)
       exact rj0 hc 3
      obtain ⟨⟨g5,g6⟩,g7,h⟩ := Qel h
      refine rs hc none [oN,some (.call (.bool g5) [.optr [.str g6.fs,I g6.fat,.bool g6.ffail,I g6.fleft],.undef] 1),oN] [(0,.ra 1000 0),(3,.rs 12),(4,I a5),(56,.bool g5)] [(12,rI a4),(1000,.box [.str g6.fs,I g6.fat,.bool g6.ffail,I g6.fleft])] (ab (K7w _ _ g7) K2h tv) ?_
      obtain ⟨⟨g8,g9,i0,i1,i2,i3⟩,i4,h⟩ := Qel h
      refine Wp.into (x := .normal) (mkS [(0,.ra 1000 0),(3,.rs 32),(4,I i3)] [(32,rI i2),(1000,.box [.str g8,I g9,.bool i0,I i1])]) ?_ ?_
      ·replace h := i4
       refine ic h (fun i5 h => ?_) fun i5 h => ?_
       ·obtain ⟨⟨i6,i7⟩,i8,h⟩ := Qel h
        obtain ⟨_,i9,h⟩ := Qel h
        refine rsd hc none [oN,oN,some (.call (I i6) [.optr [.str i7.fs,I i7.fat,.bool i7.ffail,I i7.fleft],.undef,.undef] 1),mK 31,some (.eqv (.mk 32 true) ⟨[(63,.rs 32)],[(32,some (rI (a4 ++ [i6]))),(12,none),(31,none)],[32]⟩),oN] [3,56] [(3,.rs 32)] [(32,rI (a4 ++ [i6])),(1000,.box [.str i7.fs,I i7.fat,.bool i7.ffail,I i7.fleft])] (ad (K8k _ _ i8) K2p (congrArg (fun z => (⟨[(63,.rs 32)],[(32,some (.arr z)),(12,none),(31,none)],[32]⟩ : Wr)) ((List.map_append).symm : (List.map I a4) ++ (List.map I [i6]) = List.map I (a4 ++ [i6]))) (Qez (enc1 := I) (enc2 := I) (e1 := a4) (e2 := [i6]) (sz := 1) Qf8 Qf8 i9) tv) ?_
        obtain ⟨rfl,hq0⟩ := Prod.mk.inj (os h)
        obtain ⟨rfl,hq1⟩ := Prod.mk.inj (hq0)
        obtain ⟨rfl,hq2⟩ := Prod.mk.inj (hq1)
        obtain ⟨rfl,hq3⟩ := Prod.mk.inj (hq2)
        obtain ⟨rfl,rfl⟩ := Prod.mk.inj (hq3)
        exact rj0 hc 3
       refine K3c hc 4 [56] [] [(12,rI a4),(1000,.box [.str g6.fs,I g6.fat,.bool true,I g6.fleft])] ?_
       obtain ⟨rfl,hq0⟩ := Prod.mk.inj (os h)
       obtain ⟨rfl,hq1⟩ := Prod.mk.inj (hq0)
       obtain ⟨rfl,hq2⟩ := Prod.mk.inj (hq1)
       obtain ⟨rfl,hq3⟩ := Prod.mk.inj (hq2)
       obtain ⟨rfl,rfl⟩ := Prod.mk.inj (hq3)
       exact iv [(32,12)]
      clear i4
      obtain ⟨rfl,hq0⟩ := Prod.mk.inj (os h)
      obtain ⟨rfl,hq1⟩ := Prod.mk.inj (hq0)
      obtain ⟨rfl,hq2⟩ := Prod.mk.inj (hq1)
      obtain ⟨rfl,hq3⟩ := Prod.mk.inj (hq2)
      obtain ⟨rfl,rfl⟩ := Prod.mk.inj (hq3)
      exact iv [(30,32)]
     clear f9
     obtain ⟨rfl,hq0⟩ := Prod.mk.inj (os h)
     obtain ⟨rfl,hq1⟩ := Prod.mk.inj (hq0)
     obtain ⟨rfl,hq2⟩ := Prod.mk.inj (hq1)
     obtain ⟨rfl,hq3⟩ := Prod.mk.inj (hq2)
     obtain ⟨rfl,rfl⟩ := Prod.mk.inj (hq3)
     exact iv [(28,30)]
    clear e7
    obtain ⟨rfl,hq0⟩ := Prod.mk.inj (os h)
    obtain ⟨rfl,hq1⟩ := Prod.mk.inj (hq0)
    obtain ⟨rfl,hq2⟩ := Prod.mk.inj (hq1)
    obtain ⟨rfl,hq3⟩ := Prod.mk.inj (hq2)
    obtain ⟨rfl,rfl⟩ := Prod.mk.inj (hq3)
    exact iv [(26,28)]
   clear d3
   obtain ⟨rfl,hq0⟩ := Prod.mk.inj (os h)
   obtain ⟨rfl,hq1⟩ := Prod.mk.inj (hq0)
   obtain ⟨rfl,hq2⟩ := Prod.mk.inj (hq1)
   obtain ⟨rfl,hq3⟩ := Prod.mk.inj (hq2)
   obtain ⟨rfl,rfl⟩ := Prod.mk.inj (hq3)
   exact iv [(24,26)]
  clear c1
  exact K3b hc 3 [(0,.ra 1000 0),(3,.rs 24),(4,I (wr (c0 - 1)))] (Qe3 (WpL.view (fun a w hv => SRx.renL [(12,24)] hv (by kernel_rfl) (by kernel_rfl) (by kernel_rfl)) (impl_readertyp_l0_ih _ _ h c hc)))
 refine xt 0 (Qdx (Qe4 ?_))
 obtain ⟨rfl,hq0⟩ := Prod.mk.inj (os h)
 obtain ⟨rfl,hq1⟩ := Prod.mk.inj (hq0)
 obtain ⟨rfl,hq2⟩ := Prod.mk.inj (hq1)
 obtain ⟨rfl,rfl⟩ := Prod.mk.inj (hq2)
 exact iv []
def K8p (r0 : K07) : Option ((List Int) × K07) :=
 (K8m (r0.fs,r0.fat,r0.ffail,r0.fleft,[],1)) >>= fun (a0,a1,a2,a3,a4) =>
 some (a0,(K07.mk a1 a2 a3 a4))
def K8q (r0 : K07) (r : (List Int) × K07) : Prop :=
 Q7a Tryd.prog 16 [.optr [.str r0.fs,I r0.fat,.bool r0.ffail,I r0.fleft]] (oI r.1) [.optr [.str r.2.fs,I r.2.fat,.bool r.2.ffail,I r.2.fleft]]
theorem K8r : ∀ p r,K8p p = some r → K8q p r := by
 rintro r0 r h
 unfold K8p at h
 refine Q7a.bodyO K1k (fn := Tryd.f16) (code := B16) (by kernel_rfl) (by kernel_rfl) (by kernel_rfl) (nt := 67) (by kernel_rfl) (by kernel_rfl) (T := [(0,.ra 1000 0)]) (O := [(1000,.box [.str r0.fs,I r0.fat,.bool r0.ffail,I r0.fleft])]) (by kernel_rfl) (by kernel_rfl) (fun c hc => ?_)
 refine K3f hc 1 [(0,.ra 1000 0)] (K3i hc 1 [] [(3,.nils)] (sN (K3f hc 1 [(0,.ra 1000 0),(3,.nils),(4,I 1)] (bk 0 ?_))))
 obtain ⟨⟨a0,a1,a2,a3,a4⟩,a5,h⟩ := Qel h
 have hL := K8o _ _ a5 c hc
 refine Wp.loopN (by kernel_rfl) (WpL.view (fun a w hv => SRx.renL [(12,33)] (SRx.nilTL 3 33 hv (by kernel_rfl) (by kernel_rfl)) (by kernel_rfl) (by kernel_rfl) (by kernel_rfl)) (?_ : WpL _ c _ _ (mkS [(0,.ra 1000 0),(3,.rs 12),(4,I 1)] [(12,.arr (List.map I [])),(1000,.box [.str r0.fs,I r0.fat,.bool r0.ffail,I r0.fleft])])))
 refine wl hL ?_
 obtain rfl := os h
 exact Qdz (K3f hc 2 [(2,.rs 12)] (rt (rr [true])))
def K8s (c : Ctx) (a0 : Int) (a1 : Int) (a2 : List Int) : ByteArray × Int × Bool × Int × (List K06) → Exit → Q0d → Prop
 | (a3,a4,a5,a6,a7) => Qe7 c (.exit 2) (mkS [(0,.ra 1000 0),(2,.ra 1 0),(6,.ra 39 0)] [(1,zT),(39,.box [I a0,I a1,.rs 40,.rs 46]),(40,rI a2),(46,rM K0c a7),(1000,.box [.str a3,I a4,.bool a5,I a6])])
def K8t (c : Ctx) (r0 : K07) : (ByteArray × Int × Bool × Int) ⊕ ((K06 × K07)) → Exit → Q0d → Prop
 | .inl (a0,a1,a2,a3) => Qe7 c (.exit 0) (mkS [(0,.ra 1000 0),(2,.ra 1 0)] [(1,zT),(1000,.box [.str a0,I a1,.bool a2,I a3])])
 | .inr r => Qej TIx Tryd.f20 [.optr [.str r0.fs,I r0.fat,.bool r0.ffail,I r0.fleft]] (.agg [I r.1.fOp,I r.1.fN,.osl (List.map I r.1.fType),oM K0c r.1.fKids],[.optr [.str r.2.fs,I r.2.fat,.bool r.2.ffail,I r.2.fleft]])
mutual
def K8u (r0 : K07) : Option (K06 × K07) :=
 ((
 if (decide ((wr (r0.fleft - 1)) < 0)) = true then
 some (true)
 else
 some (r0.ffail)
 ) : Option (Bool)) >>= fun a0 =>
 if a0 = true then
 some ((K06.mk 0 0 [] []),(K07.mk r0.fs r0.fat a0 (wr (r0.fleft - 1))))
 else
 (K7u ((K07.mk r0.fs r0.fat a0 (wr (r0.fleft - 1))),(ByteArray.mk #[120]))) >>= fun (a1,a2) =>
 if a1 = true then
 (K83 a2) >>= fun (a3,a4) =>
 some ((K06.mk 0 a3 [] []),a4)
 else
 (K8v (r0,a2.fs,a2.fat,a2.ffail,a2.fleft,2)) >>= fun fl => match fl with
 | .inl (a5,a6,a7,a8) =>
  (K83 (K07.mk a5 a6 a7 a8)) >>= fun (a9,b1) =>
  some ((K06.mk 1 a9 [] []),b1)
 | .inr r =>
  some r
 partial_fixpoint
def K8v (p : K07 × ByteArray × Int × Bool × Int × Int) : Option ((ByteArray × Int × Bool × Int) ⊕ ((K06 × K07))) :=
 match p with
 | (r0,a0,a1,a2,a3,a4) =>
  if (decide (a4 ≤ 12)) = true then
  (K89 a4) >>= fun (a5,a6) =>
  (K7u ((K07.mk a0 a1 a2 a3),a5.fword)) >>= fun (a7,a8) =>
  if a7 = true then
  ((
  if a5.fgrade = true then
  (K8c (a8,(ByteArray.mk #[58]))) >>= fun a9 =>
  (K8f a9) >>= fun (b1,b2) =>
  some ((b2.fs,b2.fat,b2.ffail,b2.fleft,b1))
  else
  some ((a8.fs,a8.fat,a8.ffail,a8.fleft,0))
  ) : Option (ByteArray × Int × Bool × Int × Int)) >>= fun (b3,b4,b5,b6,b7) =>
  ((
  if a5.ftyped = true then
  (K8c ((K07.mk b3 b4 b5 b6),(ByteArray.mk #[58]))) >>= fun b8 =>
  (K8p b8) >>= fun (b9,c0) =>
  some ((c0.fs,c0.fat,c0.ffail,c0.fleft,b9))
  else
  some ((b3,b4,b5,b6,[]))
  ) : Option (ByteArray × Int × Bool × Int × (List Int))) >>= fun (c1,c2,c3,c4,c5) =>
  (K8w (a4,a5,b7,c5,c1,c2,c3,c4,[],0)) >>= fun (c6,c7,c8,c9,d0) =>
  (K8c ((K07.mk c6 c7 c8 c9),(ByteArray.mk #[41]))) >>= fun d1 =>
  some (.inr ((K06.mk a4 b7 c5 d0),d1))
  else
  K8v (r0,a8.fs,a8.fat,a8.ffail,a8.fleft,(wr (a4 + 1)))
  else
  some (.inl (a0,a1,a2,a3))
 partial_fixpoint
def K8w (p : Int × K08 × Int × (List Int) × ByteArray × Int × Bool × Int × (List K06) × Int) : Option (ByteArray × Int × Bool × Int × (List K06)) :=
 match p with
 | (a0,a1,a2,a3,a4,a5,a6,a7,a8,a9) =>
  ((
  if (decide (a9 < a1.fkids)) = true then
  some ((!a6))
  else
  some (false)
  ) : Option (Bool)) >>= fun b1 =>
  if b1 = true then
  ((
  if (a9 == 0) = true then
  (K8c ((K07.mk a4 a5 a6 a7),(ByteArray.mk #[40]))) >>= fun b2 =>
  some ((b2.fs,b2.fat,b2.ffail,b2.fleft))
  else
  (K8c ((K07.mk a4 a5 a6 a7),(ByteArray.mk #[44]))) >>= fun b3 =>
  some ((b3.fs,b3.fat,b3.ffail,b3.fleft))
  ) : Option (ByteArray × Int × Bool × Int)) >>= fun (b4,b5,b6,b7) =>
  (K8u (K07.mk b4 b5 b6 b7)) >>= fun (b8,b9) =>
  (Qey (a8.length + [b8].length) 64) >>= fun _ =>
  K8w (a0,a1,a2,a3,b9.fs,b9.fat,b9.ffail,b9.fleft,(a8 ++ [b8]),(wr (a9 + 1)))
  else
  some ((a4,a5,a6,a7,a8))
 partial_fixpoint
end
def K8x (r0 : K07) (r : K06 × K07) : Prop :=
 Q7a Tryd.prog 20 [.optr [.str r0.fs,I r0.fat,.bool r0.ffail,I r0.fleft]] (.agg [I r.1.fOp,I r.1.fN,.osl (List.map I r.1.fType),oM K0c r.1.fKids]) [.optr [.str r.2.fs,I r.2.fat,.bool r.2.ffail,I r.2.fleft]]
def K8y (p : K07 × ByteArray × Int × Bool × Int × Int) (fl : (ByteArray × Int × Bool × Int) ⊕ ((K06 × K07))) : Prop :=
 match p with
 | (r0,a0,a1,a2,a3,a4) => ∀ c : Ctx,c.nt = 95 → WpL Tryd.prog c (cl (cl (cr (cl (cr (cr (cr (cr (cr B20))))))))) (K8t c r0 fl) (mkS [(0,.ra 1000 0),(2,.ra 1 0),(3,I a4)] [(1,zT),(1000,.box [.str a0,I a1,.bool a2,I a3])])
def K8z (p : Int × K08 × Int × (List Int) × ByteArray × Int × Bool × Int × (List K06) × Int) (fl : ByteArray × Int × Bool × Int × (List K06)) : Prop :=
 match p with
 | (a0,a1,a2,a3,a4,a5,a6,a7,a8,a9) => ∀ c : Ctx,c.nt = 95 → WpL Tryd.prog c (cl (cl (cr (cl (cr (cr (cr (cr (cr (cl (cl (cr (cl (cl (cr (cl (cr (cr (cr (cr (cr B20))))))))))))))))))))) (K8s c a0 a2 a3 fl) (mkS [(0,.ra 1000 0),(2,.ra 1 0),(4,.ra 38 0),(6,.ra 39 0),(7,I a9)] [(1,zT),(38,.box [.str a1.fword,I a1.fkids,.bool a1.fgrade,.bool a1.ftyped]),(39,.box [I a0,I a2,.rs 40,.rs 46]),(40,rI a3),(46,rM K0c a8),(1000,.box [.str a4,I a5,.bool a6,I a7])])
theorem K90 : (∀ p r,K8u p = some r → K8x p r) ∧ (∀ p r,K8v p = some r → K8y p r) ∧ (∀ p r,K8w p = some r → K8z p r) := by
 refine K8u.mutual_partial_correctness K8x K8y K8z ?_ ?_ ?_
 ·rintro impl_readerterm_l1_f impl_readerterm_l1_ih r0 r h
  refine Q7a.bodyO K1k (fn := Tryd.f20) (code := B20) (by kernel_rfl) (by kernel_rfl) (by kernel_rfl) (nt := 95) (by kernel_rfl) (by kernel_rfl) (T := [(0,.ra 1000 0)]) (O := [(1000,.box [.str r0.fs,I r0.fat,.bool r0.ffail,I r0.fleft])]) (by kernel_rfl) (by kernel_rfl) (fun c hc => ?_)
  refine rs hc none [nW 1] [(0,.ra 1000 0),(2,.ra 1 0)] [(1,zT),(1000,.box [.str r0.fs,I r0.fat,.bool r0.ffail,I r0.fleft])] tv (K3g hc 8 [] [] [(1,zT),(1000,.box [.str r0.fs,I r0.fat,.bool r0.ffail,I (wr (r0.fleft - 1))])] (sN (K3i hc 5 [] [(19,.bool (decide ((wr (r0.fleft - 1)) < 0)))] ?_)))
  obtain ⟨a0,a1,h⟩ := Qel h
  refine Wp.into (x := .normal) (mkS [(0,.ra 1000 0),(2,.ra 1 0)] [(1,zT),(1000,.box [.str r0.fs,I r0.fat,.bool a0,I (wr (r0.fleft - 1))])]) ?_ ?_
  ·replace h := a1
   refine ic h (fun a2 h => ?_) fun a2 h => ?_
   ·obtain rfl := os h
    exact rj0 hc 4
   obtain rfl := os h
   exact sk (iv [])
  clear a1
  refine sN (K3i hc 4 [] [(26,.bool a0)] (ic h (fun a3 h => ?_) fun a3 h => ?_))
  ·obtain rfl := os h
   exact K3i hc 2 [26,0] [] (rt (rr [true]))
  refine sk (sN ?_)
  obtain ⟨⟨a4,a5⟩,a6,h⟩ := Qel h
  refine rsd hc none [oN,some (.call (.bool a4) [.optr [.str a5.fs,I a5.fat,.bool a5.ffail,I a5.fleft],.undef] 1)] [26] [(29,.bool a4)] [(1,zT),(1000,.box [.str a5.fs,I a5.fat,.bool a5.ffail,I a5.fleft])] (ab (K7w _ _ a6) K2h tv) (ic h (fun a7 h => ?_) fun a7 h => ?_)
  ·obtain ⟨⟨a8,a9⟩,b1,h⟩ := Qel h
   obtain rfl := os h
   exact rsd hc none [oN,some (.call (I a8) [.optr [.str a9.fs,I a9.fat,.bool a9.ffail,I a9.fleft]] 1),oN,oN] [29,0] [] [(1,.box [I 0,I a8,.nils,.nils]),(1000,.box [.str a9.fs,I a9.fat,.bool a9.ffail,I a9.fleft])] (ab (K85 _ _ b1) K2k tv) (rt (rr [true]))
  refine sk (sN (K3f hc 1 [(0,.ra 1000 0),(2,.ra 1 0),(3,I 2)] (bk 0 ?_)))
  obtain ⟨fl,b2,h⟩ := Qel h
  have hL := impl_readerterm_l1_ih _ _ b2 c hc
  refine lp ?_
  rcases fl with ⟨b3,b4,b5,b6⟩ | r
  ·refine wl hL (Qdz ?_)
   obtain ⟨⟨b7,b8⟩,b9,h⟩ := Qel h
   obtain rfl := os h
   exact rsd hc none [oN,some (.call (I b7) [.optr [.str b8.fs,I b8.fat,.bool b8.ffail,I b8.fleft]] 1),oN,oN] [0] [] [(1,.box [I 1,I b7,.nils,.nils]),(1000,.box [.str b8.fs,I b8.fat,.bool b8.ffail,I b8.fleft])] (ab (K85 _ _ b9) K2k tv) (rt (rr [true]))
  refine WpL.mono hL ?_
  rintro _ _ ⟨rfl,hfin⟩
  obtain rfl := os h
  exact ⟨.inl rfl,hfin⟩
 ·rintro impl_readerterm_l1_f impl_readerterm_l0_f impl_readerterm_l1_ih impl_readerterm_l0_ih ⟨r0,c0,c1,c2,c3,c4⟩ r h
  intro c hc
  refine WpL.step (sN (K3i hc 2 [4,6,7] [(3,I c4),(34,.bool (decide (c4 ≤ 12)))] (ic h (fun c5 h => ?_) fun c5 h => ?_)))
  ·refine sk (sN (bk 1 ?_))
   obtain ⟨⟨c6,c7⟩,c8,h⟩ := Qel h
   refine rsd hc none [oN,oc (.tup [.agg [.str c6.fword,I c6.fkids,.bool c6.fgrade,.bool c6.ftyped],.bool c7]),oN,oN,oN,nW 38,oN,oN] [34] [(4,.ra 38 0)] [(1,zT),(38,.box [.str c6.fword,I c6.fkids,.bool c6.fgrade,.bool c6.ftyped]),(1000,.box [.str c0,I c1,.bool c2,I c3])] (cq (K8b _ _ c8) K2m tv) (sN ?_)
   obtain ⟨⟨c9,d0⟩,d1,h⟩ := Qel h
   refine rsd hc none [oN,oN,oN,some (.call (.bool c9) [.optr [.str d0.fs,I d0.fat,.bool d0.ffail,I d0.fleft],.undef] 1),oN] [] [(46,.bool (!c9))] [(1,zT),(38,.box [.str c6.fword,I c6.fkids,.bool c6.fgrade,.bool c6.ftyped]),(1000,.box [.str d0.fs,I d0.fat,.bool d0.ffail,I d0.fleft])] (ab (K7w _ _ d1) K2h tv) ?_
   rcases is h with ⟨d2,h⟩ | ⟨d2,h⟩
   ·refine cF (!c9) (nF d2) (sk (rsd hc none [oN,oN,nW 39,oN] [46,3] [(6,.ra 39 0)] [(1,zT),(38,.box [.str c6.fword,I c6.fkids,.bool c6.fgrade,.bool c6.ftyped]),(39,.box [I c4,I 0,.nils,.nils]),(1000,.box [.str d0.fs,I d0.fat,.bool d0.ffail,I d0.fleft])] tv (sN (K3i hc 2 [] [(50,.bool c6.fgrade)] ?_))))
    obtain ⟨⟨d3,d4,d5,d6,d7⟩,d8,h⟩ := Qel h
    refine Wp.into (x := .normal) (mkS [(0,.ra 1000 0),(2,.ra 1 0),(4,.ra 38 0),(6,.ra 39 0)] [(1,zT),(38,.box [.str c6.fword,I c6.fkids,.bool c6.fgrade,.bool c6.ftyped]),(39,.box [I c4,I d7,.nils,.nils]),(1000,.box [.str d3,I d4,.bool d5,I d6])]) ?_ ?_
    ·replace h := d8
     refine ic h (fun d9 h => ?_) fun d9 h => ?_
     ·obtain ⟨e0,e3,h⟩ := Qel h
      refine rs hc none [oN,some (.call (.tup []) [.optr [.str e0.fs,I e0.fat,.bool e0.ffail,I e0.fleft],.undef] 1)] [(0,.ra 1000 0),(2,.ra 1 0),(4,.ra 38 0),(6,.ra 39 0)] [(1,zT),(38,.box [.str c6.fword,I c6.fkids,.bool c6.fgrade,.bool c6.ftyped]),(39,.box [I c4,I 0,.nils,.nils]),(1000,.box [.str e0.fs,I e0.fat,.bool e0.ffail,I e0.fleft])] (ab (K8e _ _ e3) K2n tv) ?_
      obtain ⟨⟨e4,e5⟩,e6,h⟩ := Qel h
      obtain ⟨rfl,hq0⟩ := Prod.mk.inj (os h)
      obtain ⟨rfl,hq1⟩ := Prod.mk.inj (hq0)
      obtain ⟨rfl,hq2⟩ := Prod.mk.inj (hq1)
      obtain ⟨rfl,rfl⟩ := Prod.mk.inj (hq2)
      exact rj hc none [oN,some (.call (I e4) [.optr [.str e5.fs,I e5.fat,.bool e5.ffail,I e5.fleft]] 1),oN,oN] (ab (K8h _ _ e6) K2o tv)
     refine sk ?_
     obtain ⟨rfl,hq0⟩ := Prod.mk.inj (os h)
     obtain ⟨rfl,hq1⟩ := Prod.mk.inj (hq0)
     obtain ⟨rfl,hq2⟩ := Prod.mk.inj (hq1)
     obtain ⟨rfl,rfl⟩ := Prod.mk.inj (hq2)
     exact iv []
    clear d8
    refine sN (K3i hc 2 [] [(57,.bool c6.ftyped)] ?_)
    obtain ⟨⟨e7,e8,e9,f0,f1⟩,f2,h⟩ := Qel h
    refine Wp.into (x := .normal) (mkS [(0,.ra 1000 0),(2,.ra 1 0),(4,.ra 38 0),(6,.ra 39 0)] [(1,zT),(38,.box [.str c6.fword,I c6.fkids,.bool c6.fgrade,.bool c6.ftyped]),(39,.box [I c4,I d7,.rs 40,.nils]),(40,rI f1),(1000,.box [.str e7,I e8,.bool e9,I f0])]) ?_ ?_
    ·replace h := f2
     refine ic h (fun f3 h => ?_) fun f3 h => ?_
     ·obtain ⟨f4,f5,h⟩ := Qel h
      refine rsd hc none [oN,some (.call (.tup []) [.optr [.str f4.fs,I f4.fat,.bool f4.ffail,I f4.fleft],.undef] 1)] [57] [] [(1,zT),(38,.box [.str c6.fword,I c6.fkids,.bool c6.fgrade,.bool c6.ftyped]),(39,.box [I c4,I d7,.nils,.nils]),(1000,.box [.str f4.fs,I f4.fat,.bool f4.ffail,I f4.fleft])] (ab (K8e _ _ f5) K2n tv) ?_
      obtain ⟨⟨f6,f7⟩,f8,h⟩ := Qel h
      obtain ⟨rfl,hq0⟩ := Prod.mk.inj (os h)
      obtain ⟨rfl,hq1⟩ := Prod.mk.inj (hq0)
      obtain ⟨rfl,hq2⟩ := Prod.mk.inj (hq1)
      obtain ⟨rfl,rfl⟩ := Prod.mk.inj (hq2)
      exact rj hc none [oN,some (.call (oI f6) [.optr [.str f7.fs,I f7.fat,.bool f7.ffail,I f7.fleft]] 40),oN,oN] (ab (K8r _ _ f8) K2q tv)
     refine sk ?_
     obtain ⟨rfl,hq0⟩ := Prod.mk.inj (os h)
     obtain ⟨rfl,hq1⟩ := Prod.mk.inj (hq0)
     obtain ⟨rfl,hq2⟩ := Prod.mk.inj (hq1)
     obtain ⟨rfl,rfl⟩ := Prod.mk.inj (hq2)
     exact Qe7.view (fun a w hv => SRx.renL [(40,41)] (SRx.nilBL 39 2 41 [I c4,I d7,.nils,.nils] hv (by kernel_rfl) (by kernel_rfl) (by kernel_rfl)) (by kernel_rfl) (by kernel_rfl) (by kernel_rfl))
    clear f2
    refine sN (K3f hc 1 [(0,.ra 1000 0),(2,.ra 1 0),(4,.ra 38 0),(6,.ra 39 0),(7,I 0)] (bk 2 ?_))
    obtain ⟨⟨f9,g0,g1,g2,g3⟩,g4,h⟩ := Qel h
    have hL := impl_readerterm_l0_ih _ _ g4 c hc
    refine Wp.loopN (by kernel_rfl) (WpL.view (fun a w hv => SRx.renL [(46,55)] (SRx.nilBL 39 3 55 [I c4,I d7,.rs 40,.nils] hv (by kernel_rfl) (by kernel_rfl) (by kernel_rfl)) (by kernel_rfl) (by kernel_rfl) (by kernel_rfl)) (?_ : WpL _ c _ _ (mkS [(0,.ra 1000 0),(2,.ra 1 0),(4,.ra 38 0),(6,.ra 39 0),(7,I 0)] [(1,zT),(38,.box [.str c6.fword,I c6.fkids,.bool c6.fgrade,.bool c6.ftyped]),(39,.box [I c4,I d7,.rs 40,.rs 46]),(40,rI f1),(46,.arr (List.map K0c [])),(1000,.box [.str e7,I e8,.bool e9,I f0])])))
    refine wl hL (Qdz ?_)
    obtain ⟨g5,g6,h⟩ := Qel h
    obtain rfl := os h
    exact rsd hc none [oN,some (.call (.tup []) [.optr [.str g5.fs,I g5.fat,.bool g5.ffail,I g5.fleft],.undef] 1)] [0] [] [(1,zT),(39,.box [I c4,I d7,.rs 40,.rs 46]),(40,rI f1),(46,rM K0c g3),(1000,.box [.str g5.fs,I g5.fat,.bool g5.ffail,I g5.fleft])] (ab (K8e _ _ g6) K2n tv) (K3g hc 2 [6] [] [(1,.box [I c4,I d7,.rs 40,.rs 46]),(40,rI f1),(46,rM K0c g3),(1000,.box [.str g5.fs,I g5.fat,.bool g5.ffail,I g5.fleft])] (rt (rp [true])))
   exact cT (!c9) (nT d2) (xt 1 (Qdx (Qdz (ri0 hc 3 (Qe3 (impl_readerterm_l1_ih _ _ h c hc))))))
  obtain rfl := os h
  exact xt 0 (Qdx (Qe4 (iv [])))
 ·rintro impl_readerterm_f impl_readerterm_l0_f impl_readerterm_ih impl_readerterm_l0_ih ⟨c4,c6,d7,f1,g7,g8,g9,i0,i1,i2⟩ r h
  intro c hc
  refine WpL.step (sN (sN ?_))
  obtain ⟨i3,i4,h⟩ := Qel h
  refine wi [] [(73,.bool i3)] ?_ ?_
  ·replace h := i4
   rcases is h with ⟨i5,h⟩ | ⟨i5,h⟩
   ·obtain rfl := os h
    exact rj hc none (nN 10 [oT]) (ar 6 i5 tv)
   obtain rfl := os h
   exact rj hc none (nN 5 (n_ 5 [oF])) (ar 5 (neT i5) (ai i5 tv))
  clear i4
  refine ic h (fun i6 h => ?_) fun i6 h => ?_
  ·refine sk (sN (bk 3 (sN (K3i hc 2 [73] [(77,.bool (i2 == 0))] ?_))))
   obtain ⟨⟨i7,i8,i9,j0⟩,j8,h⟩ := Qel h
   refine Wp.into (x := .normal) (mkS [(0,.ra 1000 0),(2,.ra 1 0),(4,.ra 38 0),(6,.ra 39 0),(7,I i2)] [(1,zT),(38,.box [.str c6.fword,I c6.fkids,.bool c6.fgrade,.bool c6.ftyped]),(39,.box [I c4,I d7,.rs 40,.rs 46]),(40,rI f1),(46,rM K0c i1),(1000,.box [.str i7,I i8,.bool i9,I j0])]) ?_ ?_
   ·replace h := j8
    refine ic h (fun j9 h => ?_) fun j9 h => ?_
    ·obtain ⟨k0,k1,h⟩ := Qel h
     obtain ⟨rfl,hq0⟩ := Prod.mk.inj (os h)
     obtain ⟨rfl,hq1⟩ := Prod.mk.inj (hq0)
     obtain ⟨rfl,rfl⟩ := Prod.mk.inj (hq1)
     exact rj hc none [oN,some (.call (.tup []) [.optr [.str k0.fs,I k0.fat,.bool k0.ffail,I k0.fleft],.undef] 1)] (ab (K8e _ _ k1) K2n tv)
    obtain ⟨k2,k3,h⟩ := Qel h
    obtain ⟨rfl,hq0⟩ := Prod.mk.inj (os h)
    obtain ⟨rfl,hq1⟩ := Prod.mk.inj (hq0)
    obtain ⟨rfl,rfl⟩ := Prod.mk.inj (hq1)
    exact rj hc none [oN,some (.call (.tup []) [.optr [.str k2.fs,I k2.fat,.bool k2.ffail,I k2.fleft],.undef] 1)] (ab (K8e _ _ k3) K2n tv)
   clear j8
   obtain ⟨⟨k4,k5⟩,k6,h⟩ := Qel h
   obtain ⟨_,k7,h⟩ := Qel h
   exact rgd hc (rx [[0],[1],[0],[0,2],[0,2,3],[5],[6],[7]]) [oN,oN,oN,some (.call (K13 k4) [.optr [.str k5.fs,I k5.fat,.bool k5.ffail,I k5.fleft]] 51),some (.eqv (.mk 53 true) ⟨[(86,.rs 53)],[(53,some (.arr (List.map K0c [k4]))),(51,none),(52,none)],[53]⟩),some (.eqv (.mk 54 true) ⟨[(87,.rs 54)],[(54,some (rM K0c (i1 ++ [k4]))),(46,none),(53,none)],[54]⟩),oN,oN] [] [] [(1,zT),(38,.box [.str c6.fword,I c6.fkids,.bool c6.fgrade,.bool c6.ftyped]),(39,.box [I c4,I d7,.rs 40,.rs 54]),(40,rI f1),(54,rM K0c (i1 ++ [k4])),(1000,.box [.str k5.fs,I k5.fat,.bool k5.ffail,I k5.fleft])] (ad (impl_readerterm_ih _ _ k6) K2r (congrArg (fun z => (⟨[(86,.rs 53)],[(53,some (.arr z)),(51,none),(52,none)],[53]⟩ : Wr)) ((Qfs (K0i k4) Qfr) : [AV.agg [I k4.fOp,I k4.fN,oI k4.fType,oM K0c k4.fKids]] = List.map K0c [k4])) (congrArg (fun z => (⟨[(87,.rs 54)],[(54,some (.arr z)),(46,none),(53,none)],[54]⟩ : Wr)) ((List.map_append).symm : (List.map K0c i1) ++ (List.map K0c [k4]) = List.map K0c (i1 ++ [k4]))) (ai (Qez (enc1 := K0c) (enc2 := K0c) (e1 := i1) (e2 := [k4]) (sz := 4) K0m K0m k7) tv)) (K3b hc 3 [(0,.ra 1000 0),(2,.ra 1 0),(4,.ra 38 0),(6,.ra 39 0),(7,I (wr (i2 + 1)))] (Qe3 (WpL.view (fun a w hv => SRx.renL [(46,54)] hv (by kernel_rfl) (by kernel_rfl) (by kernel_rfl)) (impl_readerterm_l0_ih _ _ h c hc))))
  refine xt 2 (Qdx (Qe4 ?_))
  obtain ⟨rfl,hq0⟩ := Prod.mk.inj (os h)
  obtain ⟨rfl,hq1⟩ := Prod.mk.inj (hq0)
  obtain ⟨rfl,hq2⟩ := Prod.mk.inj (hq1)
  obtain ⟨rfl,rfl⟩ := Prod.mk.inj (hq2)
  exact iv []
theorem K91 : ∀ p r,K8u p = some r → K8x p r := K90.1
theorem K92 : ∀ p r,K8v p = some r → K8y p r := K90.2.1
theorem K93 : ∀ p r,K8w p = some r → K8z p r := K90.2.2
def K94 (g0 : Int) : Option (Bool) :=
 (K86 (g0,(-1),15)) >>= fun a0 =>
 some a0
def K95 (g0 : Int) (r : Bool) : Prop :=
 Q7a Tryd.prog 58 [I g0] (.bool r) []
theorem K96 : ∀ p r,K94 p = some r → K95 p r := by
 rintro g0 r h
 unfold K94 at h
 refine b0 Tryd.f58 B58 5 [(0,I g0)] fun c hc => (K3g hc 1 [] [] [] ?_)
 obtain ⟨a0,a1,h⟩ := Qel h
 obtain rfl := os h
 exact rs hc none [oN,oc (.bool a0),oN] [(2,.bool a0)] [] (cq (K88 _ _ a1) K2l tv) (rt (rq [true]))
def K97 (code0 : Int) : Option (Int × Int) :=
 (K86 (code0,0,2)) >>= fun a0 =>
 if a0 = true then
 some (code0,(-1))
 else
 (K86 (code0,3,18)) >>= fun a1 =>
 if a1 = true then
 some (3,(wr (code0 - 3)))
 else
 (K86 (code0,19,34)) >>= fun a2 =>
 if a2 = true then
 some (4,(wr (code0 - 19)))
 else
 if (code0 == 35) = true then
 some (3,(-1))
 else
 if (code0 == 36) = true then
 some (4,(-1))
 else
 some (5,(-1))
def K98 (code0 : Int) (r : Int × Int) : Prop :=
 Q7a Tryd.prog 46 [I code0] (.tup [I r.1,I r.2]) []
theorem K99 : ∀ p r,K97 p = some r → K98 p r := by
 rintro code0 r h
 unfold K97 at h
 refine b0 Tryd.f46 B46 24 [(0,I code0)] fun c hc => (K3g hc 2 [] [] [] (sN (bk 0 ?_)))
 obtain ⟨a0,a1,h⟩ := Qel h
 refine rsd hc none [oN,oc (.bool a0),oN] [] [(4,.bool a0)] [] (cq (K88 _ _ a1) K2l tv) (ic h (fun a2 h => ?_) fun a2 h => ?_)
 ·obtain rfl := os h
  exact rs0 hc 3 [(2,I code0),(3,I (-1))] [] (rt (rq [true,true]))
 obtain ⟨a3,a4,h⟩ := Qel h
 refine rsd hc none [oN,oc (.bool a3),oN] [4] [(8,.bool a3)] [] (cq (K88 _ _ a4) K2l tv) (ic h (fun a5 h => ?_) fun a5 h => ?_)
 ·obtain rfl := os h
  exact rs0 hc 4 [(2,I 3),(3,I (wr (code0 - 3)))] [] (rt (rq [true,true]))
 obtain ⟨a6,a7,h⟩ := Qel h
 refine rsd hc none [oN,oc (.bool a6),oN] [8] [(13,.bool a6)] [] (cq (K88 _ _ a7) K2l tv) (ic h (fun a8 h => ?_) fun a8 h => ?_)
 ·obtain rfl := os h
  exact rs0 hc 4 [(2,I 4),(3,I (wr (code0 - 19)))] [] (rt (rq [true,true]))
 refine K3g hc 3 [13] [(18,.bool (code0 == 35))] [] (ic h (fun a9 h => ?_) fun a9 h => ?_)
 ·obtain rfl := os h
  exact rs0 hc 2 [(2,I 3),(3,I (-1))] [] (rt (rq [true,true]))
 refine rs0 hc 3 [(21,.bool (code0 == 36))] [] (ic h (fun b1 h => ?_) fun b1 h => ?_)
 ·obtain rfl := os h
  exact rs0 hc 2 [(2,I 4),(3,I (-1))] [] (rt (rq [true,true]))
 obtain rfl := os h
 exact sk (rs0 hc 2 [(2,I 5),(3,I (-1))] [] (rt (rq [true,true])))
def K9a (p : (List Int) × Int) : Option (Int) :=
 match p with
 | (ty0,at1) =>
  ((
  if (decide (at1 < 0)) = true then
  some (true)
  else
  some ((decide (at1 ≥ (ty0.length : Int))))
  ) : Option (Bool)) >>= fun a0 =>
  if a0 = true then
  some (-1)
  else
  (idx ty0 at1) >>= fun a1 =>
  (K97 a1) >>= fun (a2,a3) =>
  if (a2 == 0) = true then
  some (wr (at1 + 1))
  else
  if (a2 == 4) = true then
  (K9a (ty0,(wr (at1 + 1)))) >>= fun a4 =>
  some a4
  else
  if (a2 == 5) = true then
  some (-1)
  else
  (K9a (ty0,(wr (at1 + 1)))) >>= fun a5 =>
  (K9a (ty0,a5)) >>= fun a6 =>
  some a6
 partial_fixpoint
def K9b (p : (List Int) × Int) (r : Int) : Prop :=
 match p with
 | (ty0,at1) => Q7a Tryd.prog 31 [sI ty0,I at1] (I r) []
theorem K9c : ∀ p r,K9a p = some r → K9b p r := by
 refine K9a.partial_correctness K9b ?_
 rintro impl_typeEnd_f impl_typeEnd_ih ⟨ty0,at1⟩ r h
 refine b0 Tryd.f31 B31 42 [(0,sI ty0),(1,I at1)] fun c hc => (K3g hc 1 [] [] [] (sN (sN ?_)))
 obtain ⟨a0,a1,h⟩ := Qel h
 refine wi [] [(14,.bool a0)] ?_ ?_
 ·replace h := a1
  rcases is h with ⟨a2,h⟩ | ⟨a2,h⟩
  ·obtain rfl := os h
   exact rj hc none ([oN,oN,oN]++n_ 4 [oT]) (ar 4 (neF a2) (ai a2 tv))
  obtain rfl := os h
  exact rj hc none (nN 5 [nQ ⟨[(12,I (ty0.length : Int))],[],[]⟩,oN,oF]) (ar 3 a2 (ai (Qer (d := 12) I ty0) (ar 2 a2 tv)))
 clear a1
 refine ic h (fun a3 h => ?_) fun a3 h => ?_
 ·obtain rfl := os h
  exact rs0 hc 1 [(4,I (-1))] [] (rt (rq [true]))
 refine sk ?_
 obtain ⟨a4,a5,⟨a6,a7⟩,a8,h⟩ := bq2 h
 refine rsd hc none ([oN,oN,eL (I a4),oN,oc (.tup [I a6,I a7])]++nN 5 []) [14] [(5,I a6)] [] (ai (ix a5) (cq (K99 _ _ a8) K2t tv)) (sN (K3g hc 1 [5] [(23,I a6)] [] (bk 0 (K3g hc 2 [] [(24,.bool (a6 == 0))] [] (ic h (fun a9 h => ?_) fun a9 h => ?_)))))
 ·obtain rfl := os h
  exact rs0 hc 3 [(4,I (wr (at1 + 1)))] [] (rt (rq [true]))
 refine rs0 hc 2 [(0,sI ty0),(1,I at1),(23,I a6),(28,.bool (a6 == 4))] [] (ic h (fun b1 h => ?_) fun b1 h => ?_)
 ·obtain ⟨b2,b3,h⟩ := Qel h
  obtain rfl := os h
  exact rs hc none [oN,oN,oN,oc (I b2),oN] [(4,I b2)] [] (cq (impl_typeEnd_ih _ _ b3) K2u tv) (rt (rq [true]))
 refine K3g hc 2 [23,28] [(34,.bool (a6 == 5))] [] (ic h (fun b4 h => ?_) fun b4 h => ?_)
 ·obtain rfl := os h
  exact rs0 hc 1 [(4,I (-1))] [] (rt (rq [true]))
 refine sk ?_
 obtain ⟨b5,b6,b7,b8,h⟩ := bq2 h
 obtain rfl := os h
 exact rs hc none (nN 4 [oc (I b5),oc (I b7),oN]) [(4,I b7)] [] (cq (impl_typeEnd_ih _ _ b6) K2u (cq (impl_typeEnd_ih _ _ b8) K2u tv)) (rt (rq [true]))
def K9d (ty0 : (List Int)) : Option (Bool) :=
 ((
 (K86 ((ty0.length : Int),1,40)) >>= fun a0 =>
 if a0 = true then
 (K9a (ty0,0)) >>= fun a1 =>
 some ((a1 == (ty0.length : Int)))
 else
 some (false)
 ) : Option (Bool)) >>= fun a2 =>
 some a2
def K9e (ty0 : (List Int)) (r : Bool) : Prop :=
 Q7a Tryd.prog 17 [sI ty0] (.bool r) []
theorem K9f : ∀ p r,K9d p = some r → K9e p r := by
 rintro ty0 r h
 unfold K9d at h
 refine b0 Tryd.f17 B17 13 [(0,sI ty0)] fun c hc => (K3g hc 1 [] [] [] (sN ?_))
 obtain ⟨a0,a1,h⟩ := Qel h
 refine Wp.into (x := .normal) (mkS [(2,.bool a0)] []) ?_ ?_
 ·replace h := a1
  obtain ⟨a2,a3,h⟩ := Qel h
  rcases is h with ⟨a4,h⟩ | ⟨a4,h⟩
  ·obtain ⟨a5,a6,h⟩ := Qel h
   obtain rfl := os h
   exact rj hc none [oN,nQ ⟨[(4,I (ty0.length : Int))],[],[]⟩,oc (.bool a2),oN,oN,oc (I a5),oN,nQ ⟨[(10,I (ty0.length : Int))],[],[]⟩,oN,oT,oN] (ai (Qer (d := 4) I ty0) (cq (K88 _ _ a3) K2l (ar 2 a4 (cq (K9c _ _ a6) K2u (ar 2 a4 (ai (Qer (d := 10) I ty0) (ar 2 a4 tv)))))))
  obtain rfl := os h
  exact rj hc none ([oN,nQ ⟨[(4,I (ty0.length : Int))],[],[]⟩,oc (.bool a2),oN]++n_ 5 [oF,oN]) (ai (Qer (d := 4) I ty0) (cq (K88 _ _ a3) K2l (ar 5 (neT a4) (ai a4 tv))))
 clear a1
 obtain rfl := os h
 exact rt (rq [true])
def K9g (p : Int × Int) : Option (Int) :=
 match p with
 | (op0,kid1) =>
  ((
  if (op0 == 5) = true then
  some ((kid1 == 1))
  else
  some (false)
  ) : Option (Bool)) >>= fun a0 =>
  if a0 = true then
  some 2
  else
  ((
  if (op0 == 8) = true then
  some ((decide (kid1 > 0)))
  else
  some (false)
  ) : Option (Bool)) >>= fun a1 =>
  ((
  if a1 = true then
  some (a1)
  else
  ((
  if (op0 == 9) = true then
  some ((op0 == 9))
  else
  ((
  if (op0 == 12) = true then
  some ((kid1 == 1))
  else
  some (false)
  ) : Option (Bool)) >>= fun a2 =>
  some (a2)
  ) : Option (Bool)) >>= fun a3 =>
  some (a3)
  ) : Option (Bool)) >>= fun a4 =>
  if a4 = true then
  some 1
  else
  some 0
def K9h (p : Int × Int) (r : Int) : Prop :=
 match p with
 | (op0,kid1) => Q7a Tryd.prog 67 [I op0,I kid1] (I r) []
theorem K9i : ∀ p r,K9g p = some r → K9h p r := by
 rintro ⟨op0,kid1⟩ r h
 unfold K9g at h
 refine b0 Tryd.f67 B67 27 [(0,I op0),(1,I kid1)] fun c hc => (K3g hc 1 [] [] [] (sN (bk 0 (sN ?_))))
 obtain ⟨a0,a1,h⟩ := Qel h
 refine wi [] [(5,.bool a0)] ?_ ?_
 ·replace h := a1
  rcases is h with ⟨a2,h⟩ | ⟨a2,h⟩
  ·obtain rfl := os h
   exact rj hc none (nN 5 [oT,oN]) (ar 3 a2 tv)
  obtain rfl := os h
  exact rj hc none [oN,oN,oN,o_,o_,oF,oN] (ar 2 (neT a2) (ai a2 tv))
 clear a1
 refine ic h (fun a3 h => ?_) fun a3 h => ?_
 ·obtain rfl := os h
  exact rs0 hc 1 [(4,I 2)] [] (rt (rq [true]))
 refine sN (sN ?_)
 obtain ⟨a4,a5,h⟩ := Qel h
 refine wi [5] [(12,.bool a4)] ?_ ?_
 ·replace h := a5
  rcases is h with ⟨a6,h⟩ | ⟨a6,h⟩
  ·obtain rfl := os h
   exact rj hc none (nN 5 [oT,oN]) (ar 3 a6 tv)
  obtain rfl := os h
  exact rj hc none [oN,oN,oN,o_,o_,oF,oN] (ar 2 (neT a6) (ai a6 tv))
 clear a5
 obtain ⟨a7,a8,h⟩ := Qel h
 refine Wp.into (x := .normal) (mkS [(12,.bool a7)] []) ?_ ?_
 ·replace h := a8
  refine ic h (fun a9 h => ?_) fun a9 h => ?_
  ·obtain rfl := os h
   exact sk (iv [])
  refine K3g hc 3 [12] [(12,.bool (op0 == 9))] [] ?_
  obtain ⟨b1,b2,h⟩ := Qel h
  refine Wp.into (x := .normal) (mkS [(12,.bool b1)] []) ?_ ?_
  ·replace h := b2
   refine ic h (fun b3 h => ?_) fun b3 h => ?_
   ·obtain rfl := os h
    exact sk (iv [])
   obtain ⟨b4,b5,h⟩ := Qel h
   refine Wp.into (x := .normal) (mkS [(12,.bool b4)] []) ?_ ?_
   ·replace h := b5
    rcases is h with ⟨b6,h⟩ | ⟨b6,h⟩
    ·obtain rfl := os h
     exact rj hc none (nN 5 [oT,oN]) (ar 3 b6 tv)
    obtain rfl := os h
    exact rj hc none [oN,oN,oN,o_,o_,oF,oN] (ar 2 (neT b6) (ai b6 tv))
   clear b5
   obtain rfl := os h
   exact im
  clear b2
  obtain rfl := os h
  exact im
 clear a8
 refine ic h (fun b7 h => ?_) fun b7 h => ?_
 ·obtain rfl := os h
  exact rs0 hc 1 [(4,I 1)] [] (rt (rq [true]))
 obtain rfl := os h
 exact sk (rs0 hc 1 [(4,I 0)] [] (rt (rq [true])))
def K9j (c : Ctx) : (Int) ⊕ (Int) → Exit → Q0d → Prop
 | .inl a0 => Qe7 c (.exit 1) (mkS [(4,I a0)] [])
 | .inr r => Qeg TIx Tryd.f57 [] (I r)
mutual
def K9k (p : K06 × Int × Int) : Option (Int) :=
 match p with
 | (t0,n1,nodes4) =>
  (K89 t0.fOp) >>= fun (a0,a1) =>
  ((
  if a1 = true then
  if (decide ((wr (nodes4 + 1)) > 400)) = true then
   some (true)
  else
   some (((t0.fKids.length : Int) != a0.fkids))
  else
  some (true)
  ) : Option (Bool)) >>= fun a2 =>
  if a2 = true then
  some 401
  else
  ((
  if (t0.fOp == 0) = true then
   (K86 (t0.fN,0,(wr (n1 - 1)))) >>= fun a3 =>
   some (a3)
  else
   ((
   if (t0.fOp == 1) = true then
   (K86 (t0.fN,0,2)) >>= fun a4 =>
   some (a4)
   else
   ((
   if a0.fgrade = true then
   (K94 t0.fN) >>= fun a5 =>
   some (a5)
   else
   some ((t0.fN == 0))
   ) : Option (Bool)) >>= fun a6 =>
   some (a6)
   ) : Option (Bool)) >>= fun a7 =>
   some (a7)
  ) : Option (Bool)) >>= fun a8 =>
  ((
  if a0.ftyped = true then
   ((
   if a8 = true then
   (K9d t0.fType) >>= fun a9 =>
   some (a9)
   else
   some (false)
   ) : Option (Bool)) >>= fun b1 =>
   some (b1)
  else
   ((
   if a8 = true then
   some (((t0.fType.length : Int) == 0))
   else
   some (false)
   ) : Option (Bool)) >>= fun b2 =>
   some (b2)
  ) : Option (Bool)) >>= fun b3 =>
  if b3 = true then
  (K9l (t0,n1,(wr (nodes4 + 1)),0)) >>= fun fl => match fl with
  | .inl b4 =>
   some b4
  | .inr r =>
   some r
  else
  some 401
 partial_fixpoint
def K9l (p : K06 × Int × Int × Int) : Option ((Int) ⊕ (Int)) :=
 match p with
 | (t0,n1,a0,a1) =>
  if (decide (a1 < (t0.fKids.length : Int))) = true then
  (idx t0.fKids a1) >>= fun a2 =>
  (K9g (t0.fOp,a1)) >>= fun a3 =>
  (K9k (a2,(wr (n1 + a3)),a0)) >>= fun a4 =>
  if (decide (a4 > 400)) = true then
  some (.inr 401)
  else
  K9l (t0,n1,a4,(wr (a1 + 1)))
  else
  some (.inl a0)
 partial_fixpoint
end
def K9m (p : K06 × Int × Int) (r : Int) : Prop :=
 match p with
 | (t0,n1,nodes4) => Q7a Tryd.prog 57 [K11 t0,I n1,.fn 58 [],.fn 17 [],I nodes4] (I r) []
def K9n (p : K06 × Int × Int × Int) (fl : (Int) ⊕ (Int)) : Prop :=
 match p with
 | (t0,n1,a0,a1) => ∀ c : Ctx,c.nt = 104 → WpL Tryd.prog c (cl (cl (cr (cl (cr (cr (cr (cr (cr (cr (cr B57))))))))))) (K9j c fl) (mkS [(1,I n1),(2,.fn 58 []),(3,.fn 17 []),(4,I a0),(5,.ra 1 0),(82,sM K09 t0.fKids),(83,I (t0.fKids.length : Int)),(84,I a1)] [(1,K10 t0)])
theorem K9o : (∀ p r,K9k p = some r → K9m p r) ∧ (∀ p r,K9l p = some r → K9n p r) := by
 refine K9k.mutual_partial_correctness K9m K9n ?_ ?_
 ·rintro impl_check_Kimpl_writtenSize_c1_Kimpl_isWrittenType_l0_f impl_check_Kimpl_writtenSize_c1_Kimpl_isWrittenType_l0_ih ⟨t0,n1,nodes4⟩ r h
  refine b0 Tryd.f57 B57 104 [(0,K11 t0),(1,I n1),(2,.fn 58 []),(3,.fn 17 []),(4,I nodes4)] fun c hc => (rsd hc none [nW 1,oN] [0] [(5,.ra 1 0)] [(1,K10 t0)] tv (K3i hc 3 [4] [(4,I (wr (nodes4 + 1)))] ?_))
  obtain ⟨⟨a0,a1⟩,a2,h⟩ := Qel h
  refine rsd hc none [oN,oN,oc (.tup [.agg [.str a0.fword,I a0.fkids,.bool a0.fgrade,.bool a0.ftyped],.bool a1]),oN,oN,oN,nW 2,oN,oN] [] [(11,.ra 2 0),(12,.bool a1)] [(1,K10 t0),(2,.box [.str a0.fword,I a0.fkids,.bool a0.fgrade,.bool a0.ftyped])] (cq (K8b _ _ a2) K2m tv) (sN (sN ?_))
  obtain ⟨a3,a4,h⟩ := Qel h
  refine wi [12] [(36,.bool a3)] ?_ ?_
  ·replace h := a4
   rcases is h with ⟨a5,h⟩ | ⟨a5,h⟩
   ·rcases is h with ⟨a6,h⟩ | ⟨a6,h⟩
    ·obtain rfl := os h
     exact rj hc none (nN 5 ([oF,oN]++n_ 6 [oT])) (ar 3 (nF a5) (ar 6 (neF a6) (ai a6 tv)))
    obtain rfl := os h
    exact rj hc none (nN 5 [oF,oN,oN,oN,nQ ⟨[(32,I (t0.fKids.length : Int))],[],[]⟩,oN,oN,oN,oF]) (ar 3 (nF a5) (ar 3 a6 (ai (Qer (d := 32) K09 t0.fKids) (ar 4 a6 tv))))
   obtain rfl := os h
   exact rj hc none ([oN,oN,oN,o_,o_,oT,oN]++n_ 6 [oT]) (ar 2 (neF (nT a5)) (ai (nT a5) (ar 6 nf (ai tt tv))))
  clear a4
  refine ic h (fun a7 h => ?_) fun a7 h => ?_
  ·obtain rfl := os h
   exact rs0 hc 1 [(10,I 401)] [] (rt (rq [true]))
  refine sk (sN (bk 0 (K3i hc 4 [36] [(40,.bool (t0.fOp == 0))] ?_)))
  obtain ⟨a8,a9,h⟩ := Qel h
  refine Wp.into (x := .normal) (mkS [(1,I n1),(2,.fn 58 []),(3,.fn 17 []),(4,I (wr (nodes4 + 1))),(5,.ra 1 0),(11,.ra 2 0),(12,.bool a8)] [(1,K10 t0),(2,.box [.str a0.fword,I a0.fkids,.bool a0.fgrade,.bool a0.ftyped])]) ?_ ?_
  ·replace h := a9
   refine ic h (fun b1 h => ?_) fun b1 h => ?_
   ·obtain ⟨b2,b3,h⟩ := Qel h
    obtain rfl := os h
    exact rj hc none (nN 4 [oc (.bool b2),oN]) (cq (K88 _ _ b3) K2l tv)
   refine K3f hc 4 [(1,I n1),(2,.fn 58 []),(3,.fn 17 []),(4,I (wr (nodes4 + 1))),(5,.ra 1 0),(11,.ra 2 0),(49,.bool (t0.fOp == 1))] ?_
   obtain ⟨b4,b5,h⟩ := Qel h
   refine wi [49] [(12,.bool b4)] ?_ ?_
   ·replace h := b5
    refine ic h (fun b6 h => ?_) fun b6 h => ?_
    ·obtain ⟨b7,b8,h⟩ := Qel h
     obtain rfl := os h
     exact rj hc none [oN,oN,oc (.bool b7),oN] (cq (K88 _ _ b8) K2l tv)
    refine K3i hc 3 [49] [(56,.bool a0.fgrade)] ?_
    obtain ⟨b9,c0,h⟩ := Qel h
    refine wi [56] [(12,.bool b9)] ?_ ?_
    ·replace h := c0
     refine ic h (fun c1 h => ?_) fun c1 h => ?_
     ·obtain ⟨c2,c3,h⟩ := Qel h
      obtain rfl := os h
      exact rj hc none [oN,oN,oN,oc (.bool c2),oN] (cq (K96 _ _ c3) K2s tv)
     obtain rfl := os h
     exact rj0 hc 4
    clear c0
    obtain rfl := os h
    exact im
   clear b5
   obtain rfl := os h
   exact im
  clear a9
  refine sN (K3g hc 2 [11] [(64,.bool a0.ftyped)] [(1,K10 t0)] ?_)
  obtain ⟨c4,c5,h⟩ := Qel h
  refine wi [64,12] [(12,.bool c4)] ?_ ?_
  ·replace h := c5
   refine ic h (fun c6 h => ?_) fun c6 h => ?_
   ·obtain ⟨c7,c8,h⟩ := Qel h
    refine wi [64,12] [(12,.bool c7)] ?_ ?_
    ·replace h := c8
     rcases is h with ⟨c9,h⟩ | ⟨c9,h⟩
     ·obtain ⟨d0,d1,h⟩ := Qel h
      obtain rfl := os h
      exact rj hc none (nN 5 [oc (.bool d0),oT,oN]) (ar 4 c9 (cq (K9f _ _ d1) K2v (ai c9 tv)))
     obtain rfl := os h
     exact rj hc none ([oN,oN]++n_ 4 [oF,oN]) (ar 4 (neT c9) (ai c9 tv))
    clear c8
    obtain rfl := os h
    exact im
   obtain ⟨d2,d3,h⟩ := Qel h
   refine wi [64,12] [(12,.bool d2)] ?_ ?_
   ·replace h := d3
    rcases is h with ⟨d4,h⟩ | ⟨d4,h⟩
    ·obtain rfl := os h
     exact rj hc none (nN 4 [nQ ⟨[(76,I (t0.fType.length : Int))],[],[]⟩,oN,oT,oN]) (ar 3 d4 (ai (Qer (d := 76) I t0.fType) (ar 2 d4 tv)))
    obtain rfl := os h
    exact rj hc none ([oN,oN]++n_ 4 [oF,oN]) (ar 4 (neT d4) (ai d4 tv))
   clear d3
   obtain rfl := os h
   exact im
  clear c5
  refine sN (K3i hc 2 [12] [(80,.bool (!c4))] ?_)
  rcases is h with ⟨d5,h⟩ | ⟨d5,h⟩
  ·refine cF (!c4) (nF d5) (sk (sN (rss hc none [oN,oN,nQ ⟨[(83,I (t0.fKids.length : Int))],[],[]⟩,oN] [(1,I n1),(2,.fn 58 []),(3,.fn 17 []),(4,I (wr (nodes4 + 1))),(5,.ra 1 0),(82,sM K09 t0.fKids),(83,I (t0.fKids.length : Int)),(84,I 0)] (ai (Qer (d := 83) K09 t0.fKids) tv) (bk 1 ?_))))
   obtain ⟨fl,d6,h⟩ := Qel h
   have hL := impl_check_Kimpl_writtenSize_c1_Kimpl_isWrittenType_l0_ih _ _ d6 c hc
   refine lp ?_
   rcases fl with d7 | r
   ·refine wl hL ?_
    obtain rfl := os h
    exact Qdz (rs0 hc 2 [(10,I d7)] [] (rt (rq [true])))
   refine WpL.mono hL ?_
   rintro _ _ ⟨rfl,hfin⟩
   obtain rfl := os h
   exact ⟨.inl rfl,hfin⟩
  refine cT (!c4) (nT d5) ?_
  obtain rfl := os h
  exact rs0 hc 1 [(10,I 401)] [] (rt (rq [true]))
 ·rintro impl_check_Kimpl_writtenSize_c1_Kimpl_isWrittenType_f impl_check_Kimpl_writtenSize_c1_Kimpl_isWrittenType_l0_f impl_check_Kimpl_writtenSize_c1_Kimpl_isWrittenType_ih impl_check_Kimpl_writtenSize_c1_Kimpl_isWrittenType_l0_ih ⟨t0,n1,d8,d9⟩ r h
  intro c hc
  refine WpL.step (K3i hc 1 [] [(85,.bool (decide (d9 < (t0.fKids.length : Int))))] (sN (ic h (fun e0 h => ?_) fun e0 h => ?_)))
  ·refine sk (sN (bk 2 ?_))
   obtain ⟨e1,e2,h⟩ := Qel h
   refine rsd hc none [oN,eL (K11 e1),oN,nW 4,oN,oN] [85] [(13,I d9),(14,.ra 4 0)] [(1,K10 t0),(4,K10 e1)] (ai (Qep e2 (K0g e1)) tv) ?_
   obtain ⟨e3,e4,e5,e6,h⟩ := bq2 h
   refine rsd hc (rx [[0],[0],[0],[0,2],[0],[0,2,3,4],[0,1,2,3,4,5],[0],[0],[0],[10],[11]]) (nN 5 ([oc (I e3)]++nN 4 [oc (I e5),oN])) [13,14,4] [(4,I e5)] [(1,K10 t0)] (cq (K9i _ _ e4) K2w (cq (impl_check_Kimpl_writtenSize_c1_Kimpl_isWrittenType_ih _ _ e6) K2x tv)) (K3i hc 2 [] [(101,.bool (decide (e5 > 400)))] (ic h (fun e7 h => ?_) fun e7 h => ?_))
   ·obtain rfl := os h
    exact rs0 hc 1 [(10,I 401)] [] (rt (re [true]))
   exact sk (ri0 hc 2 (Qe3 (impl_check_Kimpl_writtenSize_c1_Kimpl_isWrittenType_l0_ih _ _ h c hc)))
  obtain rfl := os h
  exact xt 1 (Qdx (Qe4 (iv [])))
theorem K9p : ∀ p r,K9k p = some r → K9m p r := K9o.1
theorem K9q : ∀ p r,K9l p = some r → K9n p r := K9o.2
def K9r (t0 : K06) : Option (Int) :=
 (K9k (t0,8,0)) >>= fun a0 =>
 some a0
def K9s (t0 : K06) (r : Int) : Prop :=
 Q7a Tryd.prog 41 [K11 t0] (I r) []
theorem K9t : ∀ p r,K9r p = some r → K9s p r := by
 rintro t0 r h
 unfold K9r at h
 refine b0 Tryd.f41 B41 5 [(0,K11 t0)] fun c hc => (rs hc none [nW 1,oN] [(1,.ra 1 0)] [(1,K10 t0)] tv ?_)
 obtain ⟨a0,a1,h⟩ := Qel h
 obtain rfl := os h
 exact rs hc none [oN,oc (I a0),oN] [(2,I a0)] [] (cq (K9p _ _ a1) K2x tv) (rt (rq [true]))
def K9u (t0 : K06) : Option (Bool) :=
 (K9r t0) >>= fun a0 =>
 some (decide (a0 ≤ 400))
def K9v (t0 : K06) (r : Bool) : Prop :=
 Q7a Tryd.prog 21 [K11 t0] (.bool r) []
theorem K9w : ∀ p r,K9u p = some r → K9v p r := by
 rintro t0 r h
 unfold K9u at h
 refine b0 Tryd.f21 B21 6 [(0,K11 t0)] fun c hc => (rs hc none [nW 1,oN] [(1,.ra 1 0)] [(1,K10 t0)] tv ?_)
 obtain ⟨a0,a1,h⟩ := Qel h
 obtain rfl := os h
 exact rs hc none [oN,oc (I a0),oN,oN] [(2,.bool (decide (a0 ≤ 400)))] [] (cq (K9t _ _ a1) K2y tv) (rt (rq [true]))
def K9x (text0 : ByteArray) : Option (K06 × Bool) :=
 (K8u (K07.mk text0 0 false 400)) >>= fun (a0,a1) =>
 ((
 if a1.ffail = true then
 some (true)
 else
 if (a1.fat != (text0.size : Int)) = true then
 some (true)
 else
 (K9u a0) >>= fun a2 =>
 some ((!a2))
 ) : Option (Bool)) >>= fun a3 =>
 if a3 = true then
 some ((K06.mk 0 0 [] []),false)
 else
 some (a0,true)
def K9y (text0 : ByteArray) (r : K06 × Bool) : Prop :=
 Q7a Tryd.prog 11 [.str text0] (.tup [.agg [I r.1.fOp,I r.1.fN,.osl (List.map I r.1.fType),oM K0c r.1.fKids],.bool r.2]) []
theorem K9z : ∀ p r,K9x p = some r → K9y p r := by
 rintro text0 r h
 unfold K9x at h
 refine b0 Tryd.f11 B11 31 [(0,.str text0)] fun c hc => (rsd hc none [nW 1,oN] [] [(2,.ra 1 0)] [(1,zT)] tv (rsd hc none [oN,oN,nW 2,oN] [] [(4,.ra 2 0)] [(1,zT),(2,.box [.str text0,I 0,.bool false,I 400])] tv ?_))
 obtain ⟨⟨a0,a1⟩,a2,h⟩ := Qel h
 refine rsd hc none [oN,some (.call (K13 a0) [.optr [.str a1.fs,I a1.fat,.bool a1.ffail,I a1.fleft]] 3),nW 5,oN] [] [(5,.ra 5 0)] [(1,zT),(2,.box [.str a1.fs,I a1.fat,.bool a1.ffail,I a1.fleft]),(3,rI a0.fType),(4,rM K0c a0.fKids),(5,.box [I a0.fOp,I a0.fN,.rs 3,.rs 4])] (ab (K91 _ _ a2) K2r tv) (sN (sN ?_))
 obtain ⟨a3,a4,h⟩ := Qel h
 refine Wp.into (x := .normal) (mkS [(2,.ra 1 0),(5,.ra 5 0),(28,.bool a3)] [(1,zT),(3,rI a0.fType),(4,rM K0c a0.fKids),(5,.box [I a0.fOp,I a0.fN,.rs 3,.rs 4])]) ?_ ?_
 ·replace h := a4
  rcases is h with ⟨a5,h⟩ | ⟨a5,h⟩
  ·obtain rfl := os h
   exact rj hc none (nN 5 (n_ 7 [oT,oN,o_,o_,o_,oT])) (ar 7 (neF a5) (ai a5 (ar 3 nf (ai tt tv))))
  rcases is h with ⟨a6,h⟩ | ⟨a6,h⟩
  ·obtain rfl := os h
   exact rj hc none (nN 12 [oF,oN,o_,o_,o_,oT]) (ar 8 a5 (ar 3 (neF a6) (ai a6 tv)))
  obtain ⟨a7,a8,h⟩ := Qel h
  obtain rfl := os h
  exact rj hc none (nN 12 [oF,oN,oN,oc (.bool a7),oN,oF]) (ar 8 a5 (ar 2 a6 (ac (Q7a.args (A1 := [K14 a0]) (A2 := [K11 a0]) (by simp only [K14,List.map_nil,K0s,Qfd]) (K9w _ _ a8)) K2z (Or.inr rfl : ([3,4] : List Nat) = [] ∨ noSh (.bool a7) = true) (ar 2 a6 tv))))
 clear a4
 refine ic h (fun a9 h => ?_) fun a9 h => ?_
 ·obtain rfl := os h
  exact K3g hc 3 [5,28] [(3,.bool false)] [(1,zT)] (rt (rq [true,true]))
 obtain rfl := os h
 exact sk (K3g hc 3 [5,28] [(3,.bool true)] [(1,.box [I a0.fOp,I a0.fN,.rs 3,.rs 4]),(3,rI a0.fType),(4,rM K0c a0.fKids)] (rt (rq [true,true])))
def Ka0 (c : Ctx) : (Unit) ⊕ (Bool) → Exit → Q0d → Prop
 | .inl _ => Qe7 c (.exit 0) (mkS [] [])
 | .inr r => Qeg TIx Tryd.f7 [] (.bool r)
def Ka1 (p : (List Int) × (List Int) × Int) : Option ((Unit) ⊕ (Bool)) :=
 match p with
 | (a0,b1,a1) =>
  if (decide (a1 < (a0.length : Int))) = true then
  (idx a0 a1) >>= fun a2 =>
  (idx b1 a1) >>= fun a3 =>
  if (a2 != a3) = true then
  some (.inr false)
  else
  Ka1 (a0,b1,(wr (a1 + 1)))
  else
  some (.inl ())
 partial_fixpoint
def Ka2 (p : (List Int) × (List Int) × Int) (fl : (Unit) ⊕ (Bool)) : Prop :=
 match p with
 | (a0,b1,a1) => ∀ c : Ctx,c.nt = 26 → WpL Tryd.prog c (cl (cl (cr (cl (cr (cr B7)))))) (Ka0 c fl) (mkS [(0,sI a0),(1,sI b1),(5,I a1)] [])
theorem Ka3 : ∀ p r,Ka1 p = some r → Ka2 p r := by
 refine Ka1.partial_correctness Ka2 ?_
 rintro laws_eqIntS_l0_f laws_eqIntS_l0_ih ⟨a0,b1,a1⟩ r h
 intro c hc
 refine WpL.step (sN (rsd hc none [oN,oN,nQ ⟨[(13,I (a0.length : Int))],[],[]⟩,oN] [] [(14,.bool (decide (a1 < (a0.length : Int))))] [] (ai (Qer (d := 13) I a0) tv) (ic h (fun a2 h => ?_) fun a2 h => ?_)))
 ·refine sk (sN (bk 1 ?_))
  obtain ⟨a3,a4,a5,a6,h⟩ := bq2 h
  refine rsd hc (rx [[0],[0],[2],[3],[0],[0],[0,4,5],[0,4,5,6],[8]]) [oN,oN,eL (I a3),oN,oN,oN,eL (I a5),oN,oN] [14] [(25,.bool (a3 != a5))] [] (ab (ix a4) (ix a6) tv) (ic h (fun a7 h => ?_) fun a7 h => ?_)
  ·obtain rfl := os h
   exact rs0 hc 1 [(4,.bool false)] [] (rt (re [true]))
  exact sk (ri0 hc 3 (Qe3 (laws_eqIntS_l0_ih _ _ h c hc)))
 obtain rfl := os h
 exact xt 0 (Qdx (Qe4 (iv [])))
def Ka4 (p : (List Int) × (List Int)) : Option (Bool) :=
 match p with
 | (a0,b1) =>
  if ((a0.length : Int) != (b1.length : Int)) = true then
  some false
  else
  (Ka1 (a0,b1,0)) >>= fun fl => match fl with
  | .inl () =>
   some true
  | .inr r =>
   some r
def Ka5 (p : (List Int) × (List Int)) (r : Bool) : Prop :=
 match p with
 | (a0,b1) => Q7a Tryd.prog 7 [sI a0,sI b1] (.bool r) []
theorem Ka6 : ∀ p r,Ka4 p = some r → Ka5 p r := by
 rintro ⟨a0,b1⟩ r h
 unfold Ka4 at h
 refine b0 Tryd.f7 B7 26 [(0,sI a0),(1,sI b1)] fun c hc => (K3g hc 1 [] [] [] (sN (rsd hc none [oN,nQ ⟨[(7,I (a0.length : Int))],[],[]⟩,oN,nQ ⟨[(9,I (b1.length : Int))],[],[]⟩,oN] [] [(10,.bool ((a0.length : Int) != (b1.length : Int)))] [] (ab (Qer (d := 7) I a0) (Qer (d := 9) I b1) tv) (ic h (fun a1 h => ?_) fun a1 h => ?_))))
 ·obtain rfl := os h
  exact rs0 hc 1 [(4,.bool false)] [] (rt (rq [true]))
 refine sk (sN (rs0 hc 1 [(0,sI a0),(1,sI b1),(5,I 0)] [] (bk 0 ?_)))
 obtain ⟨fl,a2,h⟩ := Qel h
 have hL := Ka3 _ _ a2 c hc
 refine lp ?_
 rcases fl with ⟨⟩ | r
 ·refine wl hL ?_
  obtain rfl := os h
  exact Qdz (rs0 hc 1 [(4,.bool true)] [] (rt (rq [true])))
 refine WpL.mono hL ?_
 rintro _ _ ⟨rfl,hfin⟩
 obtain rfl := os h
 exact ⟨.inl rfl,hfin⟩
def Ka7 (c : Ctx) : (Unit) ⊕ (Bool) → Exit → Q0d → Prop
 | .inl _ => Qe7 c (.exit 0) (mkS [] [])
 | .inr r => Qeg TIx Tryd.f22 [] (.bool r)
mutual
def Ka8 (p : K06 × K06) : Option (Bool) :=
 match p with
 | (a0,b1) =>
  if (a0.fOp != b1.fOp) = true then
  some false
  else
  if (a0.fN != b1.fN) = true then
  some false
  else
  (Ka4 (a0.fType,b1.fType)) >>= fun a1 =>
  if a1 = true then
  (Ka9 (a0.fKids,b1.fKids)) >>= fun a2 =>
  if a2 = true then
  some true
  else
  some false
  else
  some false
 partial_fixpoint
def Ka9 (p : (List K06) × (List K06)) : Option (Bool) :=
 match p with
 | (a0,b1) =>
  if ((a0.length : Int) != (b1.length : Int)) = true then
  some false
  else
  (Kaa (a0,b1,0)) >>= fun fl => match fl with
  | .inl () =>
   some true
  | .inr r =>
   some r
 partial_fixpoint
def Kaa (p : (List K06) × (List K06) × Int) : Option ((Unit) ⊕ (Bool)) :=
 match p with
 | (a0,b1,a1) =>
  if (decide (a1 < (a0.length : Int))) = true then
  (idx a0 a1) >>= fun a2 =>
  (idx b1 a1) >>= fun a3 =>
  (Ka8 (a2,a3)) >>= fun a4 =>
  if a4 = true then
  Kaa (a0,b1,(wr (a1 + 1)))
  else
  some (.inr false)
  else
  some (.inl ())
 partial_fixpoint
end
def Kab (p : K06 × K06) (r : Bool) : Prop :=
 match p with
 | (a0,b1) => Q7a Tryd.prog 12 [K11 a0,K11 b1] (.bool r) []
def Kac (p : (List K06) × (List K06)) (r : Bool) : Prop :=
 match p with
 | (a0,b1) => Q7a Tryd.prog 22 [sM K09 a0,sM K09 b1] (.bool r) []
def Kad (p : (List K06) × (List K06) × Int) (fl : (Unit) ⊕ (Bool)) : Prop :=
 match p with
 | (a0,b1,a1) => ∀ c : Ctx,c.nt = 27 → WpL Tryd.prog c (cl (cl (cr (cl (cr (cr B22)))))) (Ka7 c fl) (mkS [(0,sM K09 a0),(1,sM K09 b1),(5,I a1)] [])
theorem Kae : (∀ p r,Ka8 p = some r → Kab p r) ∧ (∀ p r,Ka9 p = some r → Kac p r) ∧ (∀ p r,Kaa p = some r → Kad p r) := by
 refine Ka8.mutual_partial_correctness Kab Kac Kad ?_ ?_ ?_
 ·rintro laws_eqTermS_f laws_eqTermS_ih ⟨a0,b1⟩ r h
  refine b0 Tryd.f12 B12 27 [(0,K11 a0),(1,K11 b1)] fun c hc => (rs hc none [nW 1,nW 2,oN] [(2,.ra 1 0),(3,.ra 2 0)] [(1,K10 a0),(2,K10 b1)] tv (sN (K3i hc 5 [] [(9,.bool (a0.fOp != b1.fOp))] (ic h (fun a1 h => ?_) fun a1 h => ?_))))
  ·obtain rfl := os h
   exact rs0 hc 1 [(4,.bool false)] [] (rt (rq [true]))
  refine sk (sN (K3i hc 5 [9] [(14,.bool (a0.fN != b1.fN))] (ic h (fun a2 h => ?_) fun a2 h => ?_)))
  ·obtain rfl := os h
   exact rs0 hc 1 [(4,.bool false)] [] (rt (rq [true]))
  refine sk (sN ?_)
  obtain ⟨a3,a4,h⟩ := Qel h
  refine K3h hc none (nN 4 [oc (.bool a3),oN]) [14] [(20,.bool (!a3))] (cq (Ka6 _ _ a4) K31 tv) ?_
  rcases is h with ⟨a5,h⟩ | ⟨a5,h⟩
  ·refine cF (!a3) (nF a5) (sk (sN ?_))
   obtain ⟨a6,a7,h⟩ := Qel h
   refine rs hc none (nN 4 [oc (.bool a6),oN]) [(26,.bool (!a6))] [] (cq (laws_eqTermS_ih _ _ a7) K32 tv) ?_
   rcases is h with ⟨a8,h⟩ | ⟨a8,h⟩
   ·refine cF (!a6) (nF a8) ?_
    obtain rfl := os h
    exact sk (rs0 hc 1 [(4,.bool true)] [] (rt (rq [true])))
   refine cT (!a6) (nT a8) ?_
   obtain rfl := os h
   exact rs0 hc 1 [(4,.bool false)] [] (rt (rq [true]))
  refine cT (!a3) (nT a5) ?_
  obtain rfl := os h
  exact rs0 hc 1 [(4,.bool false)] [] (rt (rq [true]))
 ·rintro laws_eqTermS_l0_f laws_eqTermS_l0_ih ⟨a0,b1⟩ r h
  refine b0 Tryd.f22 B22 27 [(0,sM K09 a0),(1,sM K09 b1)] fun c hc => (K3g hc 1 [] [] [] (sN (rsd hc none [oN,nQ ⟨[(7,I (a0.length : Int))],[],[]⟩,oN,nQ ⟨[(9,I (b1.length : Int))],[],[]⟩,oN] [] [(10,.bool ((a0.length : Int) != (b1.length : Int)))] [] (ab (Qer (d := 7) K09 a0) (Qer (d := 9) K09 b1) tv) (ic h (fun a1 h => ?_) fun a1 h => ?_))))
  ·obtain rfl := os h
   exact rs0 hc 1 [(4,.bool false)] [] (rt (rq [true]))
  refine sk (sN (rs0 hc 1 [(0,sM K09 a0),(1,sM K09 b1),(5,I 0)] [] (bk 0 ?_)))
  obtain ⟨fl,a9,h⟩ := Qel h
  have hL := laws_eqTermS_l0_ih _ _ a9 c hc
  refine lp ?_
  rcases fl with ⟨⟩ | r
  ·refine wl hL ?_
   obtain rfl := os h
   exact Qdz (rs0 hc 1 [(4,.bool true)] [] (rt (rq [true])))
  refine WpL.mono hL ?_
  rintro _ _ ⟨rfl,hfin⟩
  obtain rfl := os h
  exact ⟨.inl rfl,hfin⟩
 ·rintro laws_eqTerm_f laws_eqTermS_l0_f laws_eqTerm_ih laws_eqTermS_l0_ih ⟨a0,b1,b2⟩ r h
  intro c hc
  refine WpL.step (sN (rsd hc none [oN,oN,nQ ⟨[(13,I (a0.length : Int))],[],[]⟩,oN] [] [(14,.bool (decide (b2 < (a0.length : Int))))] [] (ai (Qer (d := 13) K09 a0) tv) (ic h (fun b3 h => ?_) fun b3 h => ?_)))
  ·refine sk (sN (bk 1 ?_))
   obtain ⟨b4,b5,b6,b7,b8,b9,h⟩ := bq3 h
   refine rsd hc (rx [[0],[0],[2],[3],[0],[0],[0,4,5],[0,4,5,6],[8],[9]]) [oN,oN,eL (K11 b4),oN,oN,oN,eL (K11 b6),oN,oc (.bool b8),oN] [14] [(26,.bool (!b8))] [] (ab (Qep b5 (K0g b4)) (Qep b7 (K0g b6)) (cq (laws_eqTerm_ih _ _ b9) K33 tv)) ?_
   rcases is h with ⟨c0,h⟩ | ⟨c0,h⟩
   ·exact cF (!b8) (nF c0) (sk (ri0 hc 3 (Qe3 (laws_eqTermS_l0_ih _ _ h c hc))))
   refine cT (!b8) (nT c0) ?_
   obtain rfl := os h
   exact rs0 hc 1 [(4,.bool false)] [] (rt (re [true]))
  obtain rfl := os h
  exact xt 0 (Qdx (Qe4 (iv [])))
theorem Kaf : ∀ p r,Ka8 p = some r → Kab p r := Kae.1
theorem Kag : ∀ p r,Ka9 p = some r → Kac p r := Kae.2.1
theorem Kah : ∀ p r,Kaa p = some r → Kad p r := Kae.2.2
def Kai (c : Ctx) : Int × (List Int) → Exit → Q0d → Prop
 | (a0,a1) => Qe7 c (.exit 0) (mkS [(1,I a0)] [(1000,rI a1)])
def Kaj (p : (List Int) × Int × Int) : Option (Int × (List Int)) :=
 match p with
 | (a0,a1,a2) =>
  if (decide (a2 < (a0.length : Int))) = true then
  (idx a0 a2) >>= fun a3 =>
  Kaj ((List.set a0 (Int.toNat a2) a1),(wr (a1 + 1)),(wr (a2 + 1)))
  else
  some ((a1,a0))
 partial_fixpoint
def Kak (p : (List Int) × Int × Int) (fl : Int × (List Int)) : Prop :=
 match p with
 | (a0,a1,a2) => ∀ c : Ctx,c.nt = 19 → WpL Tryd.prog c (cl (cl (cr (cl (cr B8))))) (Kai c fl) (mkS [(0,.rs 1000),(1,I a1),(5,I a2)] [(1000,rI a0)])
theorem Kal : ∀ p r,Kaj p = some r → Kak p r := by
 refine Kaj.partial_correctness Kak ?_
 rintro laws_markIntS_l0_f laws_markIntS_l0_ih ⟨a0,a1,a2⟩ r h
 intro c hc
 refine WpL.step (sN (K3h hc none [oN,oN,nQ ⟨[(8,I (a0.length : Int))],[],[]⟩,oN] [] [(9,.bool (decide (a2 < (a0.length : Int))))] (ai (Qer (d := 8) I a0) tv) (ic h (fun a3 h => ?_) fun a3 h => ?_)))
 ·refine sk (sN (bk 1 ?_))
  obtain ⟨a4,a5,h⟩ := Qel h
  exact rsd hc none (nN 4 [some (.eqv (.mk 0 true) ⟨[],[(1000,some (.arr (List.map I (List.set a0 (Int.toNat a2) a1))))],[]⟩)]) [9] [] [(1000,.arr (List.map I (List.set a0 (Int.toNat a2) a1)))] (ac (Qeq (enc := I) a5) (congrArg (fun z => (⟨[],[(1000,some (.arr z))],[]⟩ : Wr)) (Qfo (enc := I) (i := Int.toNat a2) (l := a0) (v := a1) (x := I a1) (Qf0 a1))) (Qfp (enc := I) (sz := 1) Qf4 a5) tv) (K3e hc 3 [1] [(1,I (wr (a1 + 1)))] (ri0 hc 3 (Qe3 (laws_markIntS_l0_ih _ _ h c hc))))
 refine xt 0 (Qdx (Qe4 ?_))
 obtain ⟨rfl,rfl⟩ := Prod.mk.inj (os h)
 exact iv []
def Kam (p : (List Int) × Int) : Option (Int × (List Int)) :=
 match p with
 | (a0,k1) =>
  (Kaj (a0,k1,0)) >>= fun (a1,a2) =>
  some (a1,a2)
def Kan (p : (List Int) × Int) (r : Int × (List Int)) : Prop :=
 match p with
 | (a0,k1) => Q7a Tryd.prog 8 [oI a0,I k1] (I r.1) [oI r.2,.undef]
theorem Kao : ∀ p r,Kam p = some r → Kan p r := by
 rintro ⟨a0,k1⟩ r h
 unfold Kam at h
 refine Q7a.bodyO K1k (fn := Tryd.f8) (code := B8) (by kernel_rfl) (by kernel_rfl) (by kernel_rfl) (nt := 19) (by kernel_rfl) (by kernel_rfl) (T := [(0,.rs 1000),(1,I k1)]) (O := [(1000,rI a0)]) (by kernel_rfl) (by kernel_rfl) (fun c hc => ?_)
 refine K3f hc 1 [(0,.rs 1000),(1,I k1)] (sN (K3f hc 1 [(0,.rs 1000),(1,I k1),(5,I 0)] (bk 0 ?_)))
 obtain ⟨⟨a1,a2⟩,a3,h⟩ := Qel h
 have hL := Kal _ _ a3 c hc
 refine lp (wl hL ?_)
 obtain rfl := os h
 exact Qdz (K3f hc 2 [(4,I a1)] (rt (rr [true])))
def Kap (c : Ctx) : Int × (List K06) → Exit → Q0d → Prop
 | (a0,a1) => Qe7 c (.exit 0) (mkS [(1,I a0)] [(1000,rM K0c a1)])
mutual
def Kaq (p : (List K06) × Int) : Option (Int × (List K06)) :=
 match p with
 | (a0,k1) =>
  (Kar (a0,k1,0)) >>= fun (a1,a2) =>
  some (a1,a2)
 partial_fixpoint
def Kar (p : (List K06) × Int × Int) : Option (Int × (List K06)) :=
 match p with
 | (a0,a1,a2) =>
  if (decide (a2 < (a0.length : Int))) = true then
  (idx a0 a2) >>= fun a3 =>
  (idx (List.set a0 (Int.toNat a2) (K06.mk a1 a3.fN a3.fType a3.fKids)) a2) >>= fun a4 =>
  (idx (List.set (List.set a0 (Int.toNat a2) (K06.mk a1 a3.fN a3.fType a3.fKids)) (Int.toNat a2) (K06.mk a4.fOp (wr (a1 + 1)) a4.fType a4.fKids)) a2) >>= fun a5 =>
  (Kam (a5.fType,(wr ((wr (a1 + 1)) + 1)))) >>= fun (a6,a7) =>
  (idx (List.set (List.set (List.set a0 (Int.toNat a2) (K06.mk a1 a3.fN a3.fType a3.fKids)) (Int.toNat a2) (K06.mk a4.fOp (wr (a1 + 1)) a4.fType a4.fKids)) (Int.toNat a2) (K06.mk a5.fOp a5.fN a7 a5.fKids)) a2) >>= fun a8 =>
  (Kaq (a8.fKids,a6)) >>= fun (a9,b1) =>
  Kar ((List.set (List.set (List.set (List.set a0 (Int.toNat a2) (K06.mk a1 a3.fN a3.fType a3.fKids)) (Int.toNat a2) (K06.mk a4.fOp (wr (a1 + 1)) a4.fType a4.fKids)) (Int.toNat a2) (K06.mk a5.fOp a5.fN a7 a5.fKids)) (Int.toNat a2) (K06.mk a8.fOp a8.fN a8.fType b1)),a9,(wr (a2 + 1)))
  else
  some ((a1,a0))
 partial_fixpoint
end
def Kas (p : (List K06) × Int) (r : Int × (List K06)) : Prop :=
 match p with
 | (a0,k1) => Q7a Tryd.prog 23 [oM K0c a0,I k1] (I r.1) [oM K0c r.2,.undef]
def Kat (p : (List K06) × Int × Int) (fl : Int × (List K06)) : Prop :=
 match p with
 | (a0,a1,a2) => ∀ c : Ctx,c.nt = 41 → WpL Tryd.prog c (cl (cl (cr (cl (cr B23))))) (Kap c fl) (mkS [(0,.rs 1000),(1,I a1),(5,I a2)] [(1000,rM K0c a0)])
theorem Kau : (∀ p r,Kaq p = some r → Kas p r) ∧ (∀ p r,Kar p = some r → Kat p r) := by
 refine Kaq.mutual_partial_correctness Kas Kat ?_ ?_
 ·rintro laws_markTermS_l0_f laws_markTermS_l0_ih ⟨a0,k1⟩ r h
  refine Q7a.bodyO K1k (fn := Tryd.f23) (code := B23) (by kernel_rfl) (by kernel_rfl) (by kernel_rfl) (nt := 41) (by kernel_rfl) (by kernel_rfl) (T := [(0,.rs 1000),(1,I k1)]) (O := [(1000,rM K0c a0)]) (by kernel_rfl) (by kernel_rfl) (fun c hc => ?_)
  refine K3f hc 1 [(0,.rs 1000),(1,I k1)] (sN (K3f hc 1 [(0,.rs 1000),(1,I k1),(5,I 0)] (bk 0 ?_)))
  obtain ⟨⟨a1,a2⟩,a3,h⟩ := Qel h
  have hL := laws_markTermS_l0_ih _ _ a3 c hc
  refine lp (wl hL ?_)
  obtain rfl := os h
  exact Qdz (K3f hc 2 [(4,I a1)] (rt (rr [true])))
 ·rintro laws_markTermS_f laws_markTermS_l0_f laws_markTermS_ih laws_markTermS_l0_ih ⟨a4,a5,a6⟩ r h
  intro c hc
  refine WpL.step (sN (K3h hc none [oN,oN,nQ ⟨[(8,I (a4.length : Int))],[],[]⟩,oN] [] [(9,.bool (decide (a6 < (a4.length : Int))))] (ai (Qer (d := 8) K0c a4) tv) (ic h (fun a7 h => ?_) fun a7 h => ?_)))
  ·refine sk (sN (bk 1 ?_))
   obtain ⟨a8,a9,h⟩ := Qel h
   refine rsd hc none (nN 5 [some (.eqv (.el (K13 a8)) ⟨[],[(1000,some (rM K0c (List.set a4 (Int.toNat a6) (K06.mk a5 a8.fN a8.fType a8.fKids))))],[]⟩)]) [9] [] [(1000,rM K0c (List.set a4 (Int.toNat a6) (K06.mk a5 a8.fN a8.fType a8.fKids)))] (ac (Qeq (enc := K0c) a9) (congrArg (fun z => (⟨[],[(1000,some (.arr z))],[]⟩ : Wr)) (Qfo (enc := K0c) (i := Int.toNat a6) (l := a4) (v := (K06.mk a5 a8.fN a8.fType a8.fKids)) (x := AV.agg [I a5,I a8.fN,oI a8.fType,oM K0c a8.fKids]) (K0i (K06.mk a5 a8.fN a8.fType a8.fKids)))) (Qep a9 (K0i a8)).2 tv) (K3i hc 3 [1] [(1,I (wr (a5 + 1)))] ?_)
   obtain ⟨b1,b2,h⟩ := Qel h
   refine rsd hc none (nN 5 [some (.eqv (.el (K13 b1)) ⟨[],[(1000,some (.arr (List.map K0c (List.set (List.set a4 (Int.toNat a6) (K06.mk a5 a8.fN a8.fType a8.fKids)) (Int.toNat a6) (K06.mk b1.fOp (wr (a5 + 1)) b1.fType b1.fKids)))))],[]⟩)]) [] [] [(1000,.arr (List.map K0c (List.set (List.set a4 (Int.toNat a6) (K06.mk a5 a8.fN a8.fType a8.fKids)) (Int.toNat a6) (K06.mk b1.fOp (wr (a5 + 1)) b1.fType b1.fKids))))] (ac (Qeq (enc := K0c) b2) (congrArg (fun z => (⟨[],[(1000,some (.arr z))],[]⟩ : Wr)) (Qfo (enc := K0c) (i := Int.toNat a6) (l := (List.set a4 (Int.toNat a6) (K06.mk a5 a8.fN a8.fType a8.fKids))) (v := (K06.mk b1.fOp (wr (a5 + 1)) b1.fType b1.fKids)) (x := AV.agg [I b1.fOp,I (wr (a5 + 1)),oI b1.fType,oM K0c b1.fKids]) (K0i (K06.mk b1.fOp (wr (a5 + 1)) b1.fType b1.fKids)))) (Qep b2 (K0i b1)).2 tv) (K3f hc 3 [(0,.rs 1000),(1,I (wr ((wr (a5 + 1)) + 1))),(5,I a6)] (sN ?_))
   obtain ⟨b3,b4,h⟩ := Qel h
   refine Wp.view (fun a w hv => SRx.openL 1000 (Int.toNat a6) 2 3 [3,1000] (xs := List.map K0c (List.set (List.set a4 (Int.toNat a6) (K06.mk a5 a8.fN a8.fType a8.fKids)) (Int.toNat a6) (K06.mk b1.fOp (wr (a5 + 1)) b1.fType b1.fKids))) (ys := List.map I b3.fType) (x0 := K13 b3) hv (by kernel_rfl) (Qep b4 (K0i b3)).2 (by kernel_rfl) (by kernel_rfl) (by kernel_rfl)) (?_ : Wp Tryd.prog c _ _ (mkS [(0,.rs 1000),(1,I (wr ((wr (a5 + 1)) + 1))),(5,I a6)] [(3,rI b3.fType),(1000,.arx (List.map K0c (List.set (List.set a4 (Int.toNat a6) (K06.mk a5 a8.fN a8.fType a8.fKids)) (Int.toNat a6) (K06.mk b1.fOp (wr (a5 + 1)) b1.fType b1.fKids))) (Int.toNat a6) 2 3)]))
   obtain ⟨⟨b5,b6⟩,b7,h⟩ := Qel h
   refine rg hc none (nN 4 [eL (K13 b3),oN,some (.call (I b5) [oI b6,.undef] 1),oN]) [(0,.rs 1000),(1,I b5),(5,I a6)] [(3,rI b6),(1000,.arx (List.map K0c (List.set (List.set a4 (Int.toNat a6) (K06.mk a5 a8.fN a8.fType a8.fKids)) (Int.toNat a6) (K06.mk b1.fOp (wr (a5 + 1)) b1.fType b1.fKids))) (Int.toNat a6) 2 3)] (ad (Qeq (enc := K0c) b4) (And.intro (Qep b4 (K0i b3)).2 (rfl : Int.toNat a6 = Int.toNat a6)) (Kao _ _ b7) K34 tv) (Wp.view (fun a w hv => SRx.closeL 1000 (Int.toNat a6) 2 3 [1000] (xs := List.map K0c (List.set (List.set a4 (Int.toNat a6) (K06.mk a5 a8.fN a8.fType a8.fKids)) (Int.toNat a6) (K06.mk b1.fOp (wr (a5 + 1)) b1.fType b1.fKids))) (ys := List.map I b6) (x0 := K13 b3) (x1 := AV.agg [I b3.fOp,I b3.fN,oI b6,oM K0c b3.fKids]) hv (by kernel_rfl) (by kernel_rfl) (by kernel_rfl) (Qep b4 (K0i b3)).2 (by kernel_rfl) (by kernel_rfl : _ = AV.agg [I b3.fOp,I b3.fN,oI b6,oM K0c b3.fKids]) (Qfo (enc := K0c) (i := Int.toNat a6) (l := (List.set (List.set a4 (Int.toNat a6) (K06.mk a5 a8.fN a8.fType a8.fKids)) (Int.toNat a6) (K06.mk b1.fOp (wr (a5 + 1)) b1.fType b1.fKids))) (v := (K06.mk b3.fOp b3.fN b6 b3.fKids)) (x := AV.agg [I b3.fOp,I b3.fN,oI b6,oM K0c b3.fKids]) (K0i (K06.mk b3.fOp b3.fN b6 b3.fKids))) (by kernel_rfl)) (?_ : Wp Tryd.prog c _ _ (mkS [(0,.rs 1000),(1,I b5),(5,I a6)] [(1000,.arr (List.map K0c (List.set (List.set (List.set a4 (Int.toNat a6) (K06.mk a5 a8.fN a8.fType a8.fKids)) (Int.toNat a6) (K06.mk b1.fOp (wr (a5 + 1)) b1.fType b1.fKids)) (Int.toNat a6) (K06.mk b3.fOp b3.fN b6 b3.fKids))))])))
   obtain ⟨b8,b9,h⟩ := Qel h
   refine Wp.view (fun a w hv => SRx.openL 1000 (Int.toNat a6) 3 4 [4,1000] (xs := List.map K0c (List.set (List.set (List.set a4 (Int.toNat a6) (K06.mk a5 a8.fN a8.fType a8.fKids)) (Int.toNat a6) (K06.mk b1.fOp (wr (a5 + 1)) b1.fType b1.fKids)) (Int.toNat a6) (K06.mk b3.fOp b3.fN b6 b3.fKids))) (ys := List.map K0c b8.fKids) (x0 := K13 b8) hv (by kernel_rfl) (Qep b9 (K0i b8)).2 (by kernel_rfl) (by kernel_rfl) (by kernel_rfl)) (?_ : Wp Tryd.prog c _ _ (mkS [(0,.rs 1000),(1,I b5),(5,I a6)] [(4,rM K0c b8.fKids),(1000,.arx (List.map K0c (List.set (List.set (List.set a4 (Int.toNat a6) (K06.mk a5 a8.fN a8.fType a8.fKids)) (Int.toNat a6) (K06.mk b1.fOp (wr (a5 + 1)) b1.fType b1.fKids)) (Int.toNat a6) (K06.mk b3.fOp b3.fN b6 b3.fKids))) (Int.toNat a6) 3 4)]))
   obtain ⟨⟨c0,c1⟩,c2,h⟩ := Qel h
   refine rg hc none (nN 4 [eL (K13 b8),oN,some (.call (I c0) [oM K0c c1,.undef] 1),oN]) [(0,.rs 1000),(1,I c0),(5,I a6)] [(4,rM K0c c1),(1000,.arx (List.map K0c (List.set (List.set (List.set a4 (Int.toNat a6) (K06.mk a5 a8.fN a8.fType a8.fKids)) (Int.toNat a6) (K06.mk b1.fOp (wr (a5 + 1)) b1.fType b1.fKids)) (Int.toNat a6) (K06.mk b3.fOp b3.fN b6 b3.fKids))) (Int.toNat a6) 3 4)] (ad (Qeq (enc := K0c) b9) (And.intro (Qep b9 (K0i b8)).2 (rfl : Int.toNat a6 = Int.toNat a6)) (laws_markTermS_ih _ _ c2) K35 tv) (Wp.view (fun a w hv => SRx.closeL 1000 (Int.toNat a6) 3 4 [1000] (xs := List.map K0c (List.set (List.set (List.set a4 (Int.toNat a6) (K06.mk a5 a8.fN a8.fType a8.fKids)) (Int.toNat a6) (K06.mk b1.fOp (wr (a5 + 1)) b1.fType b1.fKids)) (Int.toNat a6) (K06.mk b3.fOp b3.fN b6 b3.fKids))) (ys := List.map K0c c1) (x0 := K13 b8) (x1 := AV.agg [I b8.fOp,I b8.fN,oI b8.fType,oM K0c c1]) hv (by kernel_rfl) (by kernel_rfl) (by kernel_rfl) (Qep b9 (K0i b8)).2 (by kernel_rfl) (by kernel_rfl : _ = AV.agg [I b8.fOp,I b8.fN,oI b8.fType,oM K0c c1]) (Qfo (enc := K0c) (i := Int.toNat a6) (l := (List.set (List.set (List.set a4 (Int.toNat a6) (K06.mk a5 a8.fN a8.fType a8.fKids)) (Int.toNat a6) (K06.mk b1.fOp (wr (a5 + 1)) b1.fType b1.fKids)) (Int.toNat a6) (K06.mk b3.fOp b3.fN b6 b3.fKids))) (v := (K06.mk b8.fOp b8.fN b8.fType c1)) (x := AV.agg [I b8.fOp,I b8.fN,oI b8.fType,oM K0c c1]) (K0i (K06.mk b8.fOp b8.fN b8.fType c1))) (by kernel_rfl)) (?_ : Wp Tryd.prog c _ _ (mkS [(0,.rs 1000),(1,I c0),(5,I a6)] [(1000,.arr (List.map K0c (List.set (List.set (List.set (List.set a4 (Int.toNat a6) (K06.mk a5 a8.fN a8.fType a8.fKids)) (Int.toNat a6) (K06.mk b1.fOp (wr (a5 + 1)) b1.fType b1.fKids)) (Int.toNat a6) (K06.mk b3.fOp b3.fN b6 b3.fKids)) (Int.toNat a6) (K06.mk b8.fOp b8.fN b8.fType c1))))])))
   exact ri0 hc 3 (Qe3 (laws_markTermS_l0_ih _ _ h c hc))
  refine xt 0 (Qdx (Qe4 ?_))
  obtain ⟨rfl,rfl⟩ := Prod.mk.inj (os h)
  exact iv []
theorem Kav : ∀ p r,Kaq p = some r → Kas p r := Kau.1
theorem Kaw : ∀ p r,Kar p = some r → Kat p r := Kau.2
def Kax (p : K06 × Int) : Option (Int × K06) :=
 match p with
 | (a0,k1) =>
  (Kam (a0.fType,k1)) >>= fun (a1,a2) =>
  (Kaq (a0.fKids,a1)) >>= fun (a3,a4) =>
  some (a3,(K06.mk a0.fOp a0.fN a2 a4))
def Kay (p : K06 × Int) (r : Int × K06) : Prop :=
 match p with
 | (a0,k1) => Q7a Tryd.prog 13 [K13 a0,I k1] (I r.1) [.agg [.undef,.undef,.osl (List.map I r.2.fType),oM K0c r.2.fKids],.undef]
theorem Kaz : ∀ p r,Kax p = some r → Kay p r := by
 rintro ⟨a0,k1⟩ r h
 unfold Kax at h
 refine Q7a.bodyO K1k (fn := Tryd.f13) (code := B13) (by kernel_rfl) (by kernel_rfl) (by kernel_rfl) (nt := 14) (by kernel_rfl) (by kernel_rfl) (T := [(0,.agg [I a0.fOp,I a0.fN,.rs 1000,.rs 1001]),(1,I k1)]) (O := [(1000,rI a0.fType),(1001,rM K0c a0.fKids)]) (by kernel_rfl) (by kernel_rfl) (fun c hc => ?_)
 refine rs hc none [nW 1,oN] [(1,I k1),(2,.ra 1 0)] [(1,.box [I a0.fOp,I a0.fN,.rs 1000,.rs 1001]),(1000,rI a0.fType),(1001,rM K0c a0.fKids)] tv ?_
 obtain ⟨⟨a1,a2⟩,a3,h⟩ := Qel h
 refine rsd hc none [oN,oN,oN,some (.call (I a1) [oI a2,.undef] 1),oN] [1] [(1,I a1)] [(1,.box [I a0.fOp,I a0.fN,.rs 1000,.rs 1001]),(1000,rI a2),(1001,rM K0c a0.fKids)] (ab (Kao _ _ a3) K34 tv) ?_
 obtain ⟨⟨a4,a5⟩,a6,h⟩ := Qel h
 obtain rfl := os h
 exact rs hc none [oN,oN,oN,some (.call (I a4) [oM K0c a5,.undef] 1),oN] [(1,I a4)] [(1000,rI a2),(1001,rM K0c a5)] (ab (Kav _ _ a6) K35 tv) (K3f hc 2 [(4,I a4)] (rt (rr [true])))
def Kb0 (c : Ctx) : (Int) ⊕ (Int) → Exit → Q0d → Prop
 | .inl a0 => Qe7 c (.exit 0) (mkS [(1,I a0)] [])
 | .inr r => Qeg TIx Tryd.f9 [] (I r)
def Kb1 (p : (List Int) × Int × Int) : Option ((Int) ⊕ (Int)) :=
 match p with
 | (a0,a1,a2) =>
  if (decide (a2 < (a0.length : Int))) = true then
  (idx a0 a2) >>= fun a3 =>
  if (a3 != a1) = true then
  some (.inr (-1))
  else
  Kb1 (a0,(wr (a1 + 1)),(wr (a2 + 1)))
  else
  some (.inl a1)
 partial_fixpoint
def Kb2 (p : (List Int) × Int × Int) (fl : (Int) ⊕ (Int)) : Prop :=
 match p with
 | (a0,a1,a2) => ∀ c : Ctx,c.nt = 21 → WpL Tryd.prog c (cl (cl (cr (cl (cr B9))))) (Kb0 c fl) (mkS [(0,sI a0),(1,I a1),(5,I a2)] [])
theorem Kb3 : ∀ p r,Kb1 p = some r → Kb2 p r := by
 refine Kb1.partial_correctness Kb2 ?_
 rintro laws_heldIntS_l0_f laws_heldIntS_l0_ih ⟨a0,a1,a2⟩ r h
 intro c hc
 refine WpL.step (sN (rsd hc none [oN,oN,nQ ⟨[(8,I (a0.length : Int))],[],[]⟩,oN] [] [(9,.bool (decide (a2 < (a0.length : Int))))] [] (ai (Qer (d := 8) I a0) tv) (ic h (fun a3 h => ?_) fun a3 h => ?_)))
 ·refine sk (sN (bk 1 (sN ?_)))
  obtain ⟨a4,a5,h⟩ := Qel h
  refine rsd hc none [oN,oN,eL (I a4),oN,oN,oN] [9] [(17,.bool (a4 != a1))] [] (ai (ix a5) tv) (ic h (fun a6 h => ?_) fun a6 h => ?_)
  ·obtain rfl := os h
   exact rs0 hc 1 [(4,I (-1))] [] (rt (re [true]))
  exact sk (K3c hc 3 [17,1] [(1,I (wr (a1 + 1)))] [] (ri0 hc 3 (Qe3 (laws_heldIntS_l0_ih _ _ h c hc))))
 obtain rfl := os h
 exact xt 0 (Qdx (Qe4 (iv [])))
def Kb4 (p : (List Int) × Int) : Option (Int) :=
 match p with
 | (a0,k1) =>
  (Kb1 (a0,k1,0)) >>= fun fl => match fl with
  | .inl a1 =>
   some a1
  | .inr r =>
   some r
def Kb5 (p : (List Int) × Int) (r : Int) : Prop :=
 match p with
 | (a0,k1) => Q7a Tryd.prog 9 [sI a0,I k1] (I r) []
theorem Kb6 : ∀ p r,Kb4 p = some r → Kb5 p r := by
 rintro ⟨a0,k1⟩ r h
 unfold Kb4 at h
 refine b0 Tryd.f9 B9 21 [(0,sI a0),(1,I k1)] fun c hc => (K3g hc 1 [] [] [] (sN (rs0 hc 1 [(0,sI a0),(1,I k1),(5,I 0)] [] (bk 0 ?_))))
 obtain ⟨fl,a1,h⟩ := Qel h
 have hL := Kb3 _ _ a1 c hc
 refine lp ?_
 rcases fl with a2 | r
 ·refine wl hL ?_
  obtain rfl := os h
  exact Qdz (rs0 hc 2 [(4,I a2)] [] (rt (rq [true])))
 refine WpL.mono hL ?_
 rintro _ _ ⟨rfl,hfin⟩
 obtain rfl := os h
 exact ⟨.inl rfl,hfin⟩
def Kb7 (c : Ctx) : (Int) ⊕ (Int) → Exit → Q0d → Prop
 | .inl a0 => Qe7 c (.exit 0) (mkS [(1,I a0)] [])
 | .inr r => Qeg TIx Tryd.f24 [] (I r)
mutual
def Kb8 (p : (List K06) × Int) : Option (Int) :=
 match p with
 | (a0,k1) =>
  (Kb9 (a0,k1,0)) >>= fun fl => match fl with
  | .inl a1 =>
   some a1
  | .inr r =>
   some r
 partial_fixpoint
def Kb9 (p : (List K06) × Int × Int) : Option ((Int) ⊕ (Int)) :=
 match p with
 | (a0,a1,a2) =>
  if (decide (a2 < (a0.length : Int))) = true then
  (idx a0 a2) >>= fun a3 =>
  if (a3.fOp != a1) = true then
  some (.inr (-1))
  else
  (idx a0 a2) >>= fun a4 =>
  if (a4.fN != (wr (a1 + 1))) = true then
  some (.inr (-1))
  else
  (idx a0 a2) >>= fun a5 =>
  (Kb4 (a5.fType,(wr ((wr (a1 + 1)) + 1)))) >>= fun a6 =>
  if (decide (a6 < 0)) = true then
  some (.inr (-1))
  else
  (idx a0 a2) >>= fun a7 =>
  (Kb8 (a7.fKids,a6)) >>= fun a8 =>
  if (decide (a8 < 0)) = true then
  some (.inr (-1))
  else
  Kb9 (a0,a8,(wr (a2 + 1)))
  else
  some (.inl a1)
 partial_fixpoint
end
def Kba (p : (List K06) × Int) (r : Int) : Prop :=
 match p with
 | (a0,k1) => Q7a Tryd.prog 24 [sM K09 a0,I k1] (I r) []
def Kbb (p : (List K06) × Int × Int) (fl : (Int) ⊕ (Int)) : Prop :=
 match p with
 | (a0,a1,a2) => ∀ c : Ctx,c.nt = 49 → WpL Tryd.prog c (cl (cl (cr (cl (cr B24))))) (Kb7 c fl) (mkS [(0,sM K09 a0),(1,I a1),(5,I a2)] [])
theorem Kbc : (∀ p r,Kb8 p = some r → Kba p r) ∧ (∀ p r,Kb9 p = some r → Kbb p r) := by
 refine Kb8.mutual_partial_correctness Kba Kbb ?_ ?_
 ·rintro laws_heldTermS_l0_f laws_heldTermS_l0_ih ⟨a0,k1⟩ r h
  refine b0 Tryd.f24 B24 49 [(0,sM K09 a0),(1,I k1)] fun c hc => (K3g hc 1 [] [] [] (sN (rs0 hc 1 [(0,sM K09 a0),(1,I k1),(5,I 0)] [] (bk 0 ?_))))
  obtain ⟨fl,a1,h⟩ := Qel h
  have hL := laws_heldTermS_l0_ih _ _ a1 c hc
  refine lp ?_
  rcases fl with a2 | r
  ·refine wl hL ?_
   obtain rfl := os h
   exact Qdz (rs0 hc 2 [(4,I a2)] [] (rt (rq [true])))
  refine WpL.mono hL ?_
  rintro _ _ ⟨rfl,hfin⟩
  obtain rfl := os h
  exact ⟨.inl rfl,hfin⟩
 ·rintro laws_heldTermS_f laws_heldTermS_l0_f laws_heldTermS_ih laws_heldTermS_l0_ih ⟨a0,a3,a4⟩ r h
  intro c hc
  refine WpL.step (sN (rsd hc none [oN,oN,nQ ⟨[(8,I (a0.length : Int))],[],[]⟩,oN] [] [(9,.bool (decide (a4 < (a0.length : Int))))] [] (ai (Qer (d := 8) K09 a0) tv) (ic h (fun a5 h => ?_) fun a5 h => ?_)))
  ·refine sk (sN (bk 1 (sN ?_)))
   obtain ⟨a6,a7,h⟩ := Qel h
   refine rsd hc none ([oN,oN,eL (K11 a6)]++nN 4 []) [9] [(18,.bool (a6.fOp != a3))] [] (ai (Qep a7 (K0g a6)) tv) (ic h (fun a8 h => ?_) fun a8 h => ?_)
   ·obtain rfl := os h
    exact rs0 hc 1 [(4,I (-1))] [] (rt (re [true]))
   refine sk (K3g hc 3 [18,1] [(1,I (wr (a3 + 1)))] [] (sN ?_))
   obtain ⟨a9,b1,h⟩ := Qel h
   refine rsd hc none ([oN,oN,eL (K11 a9)]++nN 4 []) [] [(27,.bool (a9.fN != (wr (a3 + 1))))] [] (ai (Qep b1 (K0g a9)) tv) (ic h (fun b2 h => ?_) fun b2 h => ?_)
   ·obtain rfl := os h
    exact rs0 hc 1 [(4,I (-1))] [] (rt (re [true]))
   refine sk (K3g hc 3 [27,1] [(1,I (wr ((wr (a3 + 1)) + 1)))] [] ?_)
   obtain ⟨b3,b4,b5,b6,h⟩ := bq2 h
   refine rs hc none [oN,oN,eL (K11 b3),oN,oN,oN,oc (I b5),oN] [(0,sM K09 a0),(1,I b5),(5,I a4)] [] (ai (Qep b4 (K0g b3)) (cq (Kb6 _ _ b6) K37 tv)) (sN (K3g hc 2 [] [(38,.bool (decide (b5 < 0)))] [] (ic h (fun b7 h => ?_) fun b7 h => ?_)))
   ·obtain rfl := os h
    exact rs0 hc 1 [(4,I (-1))] [] (rt (re [true]))
   refine sk ?_
   obtain ⟨b8,b9,c0,c1,h⟩ := bq2 h
   refine rsd hc none [oN,oN,eL (K11 b8),oN,oN,oN,oc (I c0),oN] [38,1] [(1,I c0)] [] (ai (Qep b9 (K0g b8)) (cq (laws_heldTermS_ih _ _ c1) K38 tv)) (K3g hc 2 [] [(47,.bool (decide (c0 < 0)))] [] (ic h (fun c2 h => ?_) fun c2 h => ?_))
   ·obtain rfl := os h
    exact rs0 hc 1 [(4,I (-1))] [] (rt (re [true]))
   exact sk (ri0 hc 3 (Qe3 (laws_heldTermS_l0_ih _ _ h c hc)))
  obtain rfl := os h
  exact xt 0 (Qdx (Qe4 (iv [])))
theorem Kbd : ∀ p r,Kb8 p = some r → Kba p r := Kbc.1
theorem Kbe : ∀ p r,Kb9 p = some r → Kbb p r := Kbc.2
def Kbf (p : K06 × Int) : Option (Int) :=
 match p with
 | (a0,k1) =>
  (Kb4 (a0.fType,k1)) >>= fun a1 =>
  if (decide (a1 < 0)) = true then
  some (-1)
  else
  (Kb8 (a0.fKids,a1)) >>= fun a2 =>
  if (decide (a2 < 0)) = true then
  some (-1)
  else
  some a2
def Kbg (p : K06 × Int) (r : Int) : Prop :=
 match p with
 | (a0,k1) => Q7a Tryd.prog 14 [K11 a0,I k1] (I r) []
theorem Kbh : ∀ p r,Kbf p = some r → Kbg p r := by
 rintro ⟨a0,k1⟩ r h
 unfold Kbf at h
 refine b0 Tryd.f14 B14 18 [(0,K11 a0),(1,I k1)] fun c hc => (rsd hc none [nW 1,oN] [0] [(2,.ra 1 0)] [(1,K10 a0)] tv ?_)
 obtain ⟨a1,a2,h⟩ := Qel h
 refine K3h hc none [oN,oN,oN,oc (I a1),oN] [1] [(1,I a1)] (cq (Kb6 _ _ a2) K37 tv) (sN (K3i hc 2 [] [(10,.bool (decide (a1 < 0)))] (ic h (fun a3 h => ?_) fun a3 h => ?_)))
 ·obtain rfl := os h
  exact rs0 hc 1 [(4,I (-1))] [] (rt (rq [true]))
 refine sk ?_
 obtain ⟨a4,a5,h⟩ := Qel h
 refine rs hc none [oN,oN,oN,oc (I a4),oN] [(1,I a4)] [] (cq (Kbd _ _ a5) K38 tv) (sN (K3g hc 2 [] [(16,.bool (decide (a4 < 0)))] [] (ic h (fun a6 h => ?_) fun a6 h => ?_)))
 ·obtain rfl := os h
  exact rs0 hc 1 [(4,I (-1))] [] (rt (rq [true]))
 obtain rfl := os h
 exact sk (rs0 hc 2 [(4,I a4)] [] (rt (rq [true])))
def Kbi (aText0 : ByteArray) : Option (Bool) :=
 if (decide ((aText0.size : Int) > 1048576)) = true then
 some true
 else
 (K7l aText0) >>= fun (a0,a1) =>
 (K9x aText0) >>= fun (a2,a3) =>
 ((
 (Ka8 (a2,a0)) >>= fun a4 =>
 if a4 = true then
 some ((!(a3 == a1)))
 else
 some (true)
 ) : Option (Bool)) >>= fun a5 =>
 if a5 = true then
 some false
 else
 (Kax (a2,1)) >>= fun (a6,a7) =>
 (Kbf ((K06.mk a2.fOp a2.fN a7.fType a7.fKids),1)) >>= fun a8 =>
 if (decide (a8 < 0)) = true then
 some false
 else
 if (a8 != a6) = true then
 some false
 else
 (K9x aText0) >>= fun (a9,b1) =>
 ((
 (Ka8 (a9,a0)) >>= fun b2 =>
 if b2 = true then
 some ((!(b1 == a1)))
 else
 some (true)
 ) : Option (Bool)) >>= fun b3 =>
 if b3 = true then
 some false
 else
 (Kbf ((K06.mk a2.fOp a2.fN a7.fType a7.fKids),1)) >>= fun b4 =>
 if (decide (b4 < 0)) = true then
 some false
 else
 if (b4 != a6) = true then
 some false
 else
 some true
def Kbj (aText0 : ByteArray) (r : Bool) : Prop :=
 Q7a Tryd.prog 4 [.str aText0] (.bool r) []
theorem Kbk : ∀ p r,Kbi p = some r → Kbj p r := by
 rintro aText0 r h
 unfold Kbi at h
 refine b0 Tryd.f4 B4 66 [(0,.str aText0)] fun c hc => (K3g hc 1 [] [] [] (sN (K3g hc 3 [] [(13,.bool (decide ((aText0.size : Int) > 1048576)))] [] (ic h (fun a0 h => ?_) fun a0 h => ?_))))
 ·obtain rfl := os h
  exact rs0 hc 1 [(2,.bool true)] [] (rt (rq [true]))
 refine sk ?_
 obtain ⟨⟨a1,a2⟩,a3,h⟩ := Qel h
 refine rsd hc none [oN,oc (.tup [K13 a1,.bool a2]),oN,oN,oN,nW 3,oN,oN] [13] [(3,.ra 3 0),(4,.bool a2)] [(1,rI a1.fType),(2,rM K0c a1.fKids),(3,.box [I a1.fOp,I a1.fN,.rs 1,.rs 2])] (cq (K7n _ _ a3) K2e tv) ?_
 obtain ⟨⟨a4,a5⟩,a6,h⟩ := Qel h
 refine rsd hc none [oN,some (.call (.tup [K13 a4,.bool a5]) [] 4),oN,oN,oN,nW 6,oN,oN] [] [(5,.ra 6 0),(6,.bool a5)] [(1,rI a1.fType),(2,rM K0c a1.fKids),(3,.box [I a1.fOp,I a1.fN,.rs 1,.rs 2]),(4,rI a4.fType),(5,rM K0c a4.fKids),(6,.box [I a4.fOp,I a4.fN,.rs 4,.rs 5])] (cq (K9z _ _ a6) K30 tv) (sN (sN ?_))
 obtain ⟨a7,a8,h⟩ := Qel h
 refine wi [6] [(32,.bool a7)] ?_ ?_
 ·replace h := a8
  obtain ⟨a9,b1,h⟩ := Qel h
  rcases is h with ⟨b2,h⟩ | ⟨b2,h⟩
  ·obtain rfl := os h
   exact rj hc none ([oN,oN,oc (.bool a9)]++nN 5 [oF]) (ac (Q7a.args (A1 := [K14 a4,K14 a1]) (A2 := [K11 a4,K11 a1]) (by simp only [K14,List.map_nil,K0s,Qfd]) (Kaf _ _ b1)) K33 (Or.inr rfl : ([4,5,1,2] : List Nat) = [] ∨ noSh (.bool a9) = true) (ar 4 (nF b2) tv))
  obtain rfl := os h
  exact rj hc none [oN,oN,oc (.bool a9),oN,oN,o_,o_,o_,oT] (ac (Q7a.args (A1 := [K14 a4,K14 a1]) (A2 := [K11 a4,K11 a1]) (by simp only [K14,List.map_nil,K0s,Qfd]) (Kaf _ _ b1)) K33 (Or.inr rfl : ([4,5,1,2] : List Nat) = [] ∨ noSh (.bool a9) = true) (ar 3 (neF (nT b2)) (ai (nT b2) tv)))
 clear a8
 refine ic h (fun b3 h => ?_) fun b3 h => ?_
 ·obtain rfl := os h
  exact rs0 hc 1 [(2,.bool false)] [] (rt (rq [true]))
 refine sk (K3f hc 1 [(0,.str aText0),(3,.ra 3 0),(4,.bool a2),(5,.ra 6 0),(7,I 1)] ?_)
 obtain ⟨⟨b4,b5⟩,b6,h⟩ := Qel h
 refine rsd hc none [oN,oN,some (.call (I b4) [.agg [.undef,.undef,oI b5.fType,oM K0c b5.fKids],.undef] 1),oN] [7] [(7,I b4)] [(1,rI a1.fType),(2,rM K0c a1.fKids),(3,.box [I a1.fOp,I a1.fN,.rs 1,.rs 2]),(4,rI b5.fType),(5,rM K0c b5.fKids),(6,.box [I a4.fOp,I a4.fN,.rs 4,.rs 5])] (ab (Kaz _ _ b6) K36 tv) (K3i hc 1 [] [(8,I 1)] ?_)
 obtain ⟨b7,b8,h⟩ := Qel h
 refine K3h hc none [oN,oN,oc (I b7),oN] [8] [(8,I b7)] (ac (Q7a.args (A1 := [.agg [I a4.fOp,I a4.fN,.sl (Q05 (List.map I b5.fType)),.sl (Q05 (List.map K0c b5.fKids))],I 1]) (A2 := [.agg [I a4.fOp,I a4.fN,sI b5.fType,sM K09 b5.fKids],I 1]) (by simp only [List.map_nil,K0s,Qfd]) (Kbh _ _ b8)) K39 (Or.inr rfl : ([4,5] : List Nat) = [] ∨ noSh (I b7) = true) tv) (sN (K3i hc 2 [] [(40,.bool (decide (b7 < 0)))] (ic h (fun b9 h => ?_) fun b9 h => ?_)))
 ·obtain rfl := os h
  exact rs0 hc 1 [(2,.bool false)] [] (rt (rq [true]))
 refine sk (sN (K3i hc 3 [40,8] [(43,.bool (b7 != b4))] (ic h (fun c0 h => ?_) fun c0 h => ?_)))
 ·obtain rfl := os h
  exact rs0 hc 1 [(2,.bool false)] [] (rt (rq [true]))
 refine sk ?_
 obtain ⟨⟨c1,c2⟩,c3,h⟩ := Qel h
 refine rs hc none [oN,some (.call (.tup [K13 c1,.bool c2]) [] 7),oN,oN,oN,nW 9,oN,oN] [(3,.ra 3 0),(4,.bool a2),(5,.ra 6 0),(7,I b4),(9,.ra 9 0),(10,.bool c2)] [(1,rI a1.fType),(2,rM K0c a1.fKids),(3,.box [I a1.fOp,I a1.fN,.rs 1,.rs 2]),(4,rI b5.fType),(5,rM K0c b5.fKids),(6,.box [I a4.fOp,I a4.fN,.rs 4,.rs 5]),(7,rI c1.fType),(8,rM K0c c1.fKids),(9,.box [I c1.fOp,I c1.fN,.rs 7,.rs 8])] (cq (K9z _ _ c3) K30 tv) (sN (sN ?_))
 obtain ⟨c4,c5,h⟩ := Qel h
 refine Wp.into (x := .normal) (mkS [(5,.ra 6 0),(7,I b4),(57,.bool c4)] [(4,rI b5.fType),(5,rM K0c b5.fKids),(6,.box [I a4.fOp,I a4.fN,.rs 4,.rs 5])]) ?_ ?_
 ·replace h := c5
  obtain ⟨c6,c7,h⟩ := Qel h
  rcases is h with ⟨c8,h⟩ | ⟨c8,h⟩
  ·obtain rfl := os h
   exact rj hc none ([oN,oN,oc (.bool c6)]++nN 5 [oF]) (ac (Q7a.args (A1 := [K14 c1,K14 a1]) (A2 := [K11 c1,K11 a1]) (by simp only [K14,List.map_nil,K0s,Qfd]) (Kaf _ _ c7)) K33 (Or.inr rfl : ([7,8,1,2] : List Nat) = [] ∨ noSh (.bool c6) = true) (ar 4 (nF c8) tv))
  obtain rfl := os h
  exact rj hc none [oN,oN,oc (.bool c6),oN,oN,o_,o_,o_,oT] (ac (Q7a.args (A1 := [K14 c1,K14 a1]) (A2 := [K11 c1,K11 a1]) (by simp only [K14,List.map_nil,K0s,Qfd]) (Kaf _ _ c7)) K33 (Or.inr rfl : ([7,8,1,2] : List Nat) = [] ∨ noSh (.bool c6) = true) (ar 3 (neF (nT c8)) (ai (nT c8) tv)))
 clear c5
 refine ic h (fun c9 h => ?_) fun c9 h => ?_
 ·obtain rfl := os h
  exact rs0 hc 1 [(2,.bool false)] [] (rt (rq [true]))
 refine sk (K3i hc 1 [57] [(8,I 1)] ?_)
 obtain ⟨d0,d1,h⟩ := Qel h
 refine rsd hc none [oN,oN,oc (I d0),oN] [8,5] [(8,I d0)] [] (ac (Q7a.args (A1 := [.agg [I a4.fOp,I a4.fN,.sl (Q05 (List.map I b5.fType)),.sl (Q05 (List.map K0c b5.fKids))],I 1]) (A2 := [.agg [I a4.fOp,I a4.fN,sI b5.fType,sM K09 b5.fKids],I 1]) (by simp only [List.map_nil,K0s,Qfd]) (Kbh _ _ d1)) K39 (Or.inr rfl : ([4,5] : List Nat) = [] ∨ noSh (I d0) = true) tv) (sN (K3g hc 2 [] [(62,.bool (decide (d0 < 0)))] [] (ic h (fun d2 h => ?_) fun d2 h => ?_)))
 ·obtain rfl := os h
  exact rs0 hc 1 [(2,.bool false)] [] (rt (rq [true]))
 refine sk (sN (rs0 hc 3 [(65,.bool (d0 != b4))] [] (ic h (fun d3 h => ?_) fun d3 h => ?_)))
 ·obtain rfl := os h
  exact rs0 hc 1 [(2,.bool false)] [] (rt (rq [true]))
 obtain rfl := os h
 exact sk (rs0 hc 1 [(2,.bool true)] [] (rt (rq [true])))
end Go.Am
