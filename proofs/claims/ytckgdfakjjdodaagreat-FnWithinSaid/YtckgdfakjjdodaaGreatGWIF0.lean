/- Walks, printed. -/
import Derived.Test.YtckgdfakjjdodaaGreatGWITi
set_option linter.unusedVariables false
set_option linter.unusedSimpArgs false
set_option maxRecDepth 100000
namespace Go.Am
open Go Go.Proofs
def K9i : Option (List (List Nat)) := rx [[0],[1],[0],[3],[4],[0],[0,5],[0,5,6],[8],[9],[10],[11],[12],[11],[14],[15],[11],[11,16],[11,16,17],[19],[20],[21]]
def K9j (code0 : (List Int)) : Option (Bool) :=
 some (decide ((code0.length : Int) > 1048576))
def K9k (code0 : (List Int)) (r : Bool) : Prop :=
 Q77 Tryz.prog 14 [sM U8 code0] (.bool r) []
theorem K9l : ∀ p r,K9j p = some r → K9k p r := by
 rintro code0 r h
 unfold K9j at h
 refine b0 Tryz.f14 B14 6 [(0,sM U8 code0)] fun c hc => ?_
 obtain rfl := os h
 exact K9f hc 1 [] [] [] (rs hc none [oN,nQ ⟨[(4,I (code0.length : Int))],[],[]⟩,oN,oN] [(2,.bool (decide ((code0.length : Int) > 1048576)))] [] (ai (Qeb (d := 4) U8 code0) tv) (rt (rq [true])))
def K9m (c : Ctx) (code0 : List Int) : Int → Exit → Q0a → Prop
 | a0 => Qdr c (.exit 0) (mkS [(0,sM U8 code0),(3,I a0)] [])
def K9n (p : (List Int) × Int × Int) : Option (Int) :=
 match p with
 | (code0,a0,a1) =>
  ((
  if (decide (a1 < (code0.length : Int))) = true then
  some ((decide (a1 < 4000)))
  else
  some (false)
  ) : Option (Bool)) >>= fun a2 =>
  if a2 = true then
  (idx code0 a1) >>= fun a3 =>
  K9n (code0,(Q2r .and .i64 (wr ((wr ((wr (a0 * 151)) + (wr a3))) + 7)) 1073741823),(wr (a1 + 1)))
  else
  some (a0)
 partial_fixpoint
def K9o (p : (List Int) × Int × Int) (fl : Int) : Prop :=
 match p with
 | (code0,a0,a1) => ∀ c : Ctx,c.nt = 32 → WpL Tryz.prog c (cl (cl (cr (cl (cr (cr B71)))))) (K9m c code0 fl) (mkS [(0,sM U8 code0),(3,I a0),(4,I a1)] [])
theorem K9p : ∀ p r,K9n p = some r → K9o p r := by
 refine K9n.partial_correctness K9o ?_
 rintro spec_l1New_l0_f spec_l1New_l0_ih ⟨code0,a0,a1⟩ r h
 intro c hc
 refine WpL.step (sN (sN ?_))
 obtain ⟨a2,a3,h⟩ := Qe5 h
 refine wi [] [(15,.bool a2)] ?_ ?_
 ·replace h := a3
  rcases is h with ⟨a4,h⟩ | ⟨a4,h⟩
  ·obtain rfl := os h
   exact rj hc none ([oN,oN,nQ ⟨[(10,I (code0.length : Int))],[],[]⟩]++nN 4 [oT]) (ai (Qeb (d := 10) U8 code0) (ar 3 a4 tv))
  obtain rfl := os h
  exact rj hc none [oN,oN,nQ ⟨[(10,I (code0.length : Int))],[],[]⟩,oN,oN,o_,o_,oF] (ai (Qeb (d := 10) U8 code0) (ar 2 (neT a4) (ai a4 tv)))
 clear a3
 refine ic h (fun a5 h => ?_) fun a5 h => ?_
 ·refine sk (sN (bk 1 ?_))
  obtain ⟨a6,a7,h⟩ := Qe5 h
  exact rgd hc none (nN 4 ([eL (.int .u8 a6)]++nN 6 [])) [15,3] [(3,I (Q2r .and .i64 (wr ((wr ((wr (a0 * 151)) + (wr a6))) + 7)) 1073741823))] [] (ai (Qe9 (enc := U8) (x := .int .u8 a6) a7 (Qel a6)) tv) (ri0 hc 3 (Qdn (spec_l1New_l0_ih _ _ h c hc)))
 obtain rfl := os h
 exact xt 0 (Qdh (Qdo (iv [])))
def K9q (code0 : (List Int)) : Option (K02) :=
 (K9n (code0,(wr (242117 + (code0.length : Int))),0)) >>= fun a0 =>
 some (K02.mk code0 0 a0)
def K9r (code0 : (List Int)) (r : K02) : Prop :=
 Q77 Tryz.prog 71 [sM U8 code0] (K23 r) []
theorem K9s : ∀ p r,K9q p = some r → K9r p r := by
 rintro code0 r h
 unfold K9q at h
 refine b0 Tryz.f71 B71 32 [(0,sM U8 code0)] fun c hc => (K9f hc 1 [] [] [] (rsd hc none [oN,nQ ⟨[(6,I (code0.length : Int))],[],[]⟩,oN,oN] [] [(3,I (wr (242117 + (code0.length : Int))))] [] (ai (Qeb (d := 6) U8 code0) tv) (sN (rs0 hc 1 [(0,sM U8 code0),(3,I (wr (242117 + (code0.length : Int)))),(4,I 0)] [] (bk 0 ?_)))))
 obtain ⟨a0,a1,h⟩ := Qe5 h
 have hL := K9p _ _ a1 c hc
 refine lp (wl hL ?_)
 obtain rfl := os h
 exact Qdj (rs hc none [oN,oN,oN,nW 1,oN] [(2,.ra 1 0)] [(1,.box [sM U8 code0,I 0,I a0])] tv (rt (rq [false,false,false])))
def K9t (p : Int × Int) : Option (Int) :=
 match p with
 | (a0,b1) =>
  if (decide (a0 < b1)) = true then
  some a0
  else
  some b1
def K9u (p : Int × Int) (r : Int) : Prop :=
 match p with
 | (a0,b1) => Q77 Tryz.prog 123 [I a0,I b1] (I r) []
theorem K9v : ∀ p r,K9t p = some r → K9u p r := by
 rintro ⟨a0,b1⟩ r h
 unfold K9t at h
 refine b0 Tryz.f123 K3g 10 [(0,I a0),(1,I b1)] fun c hc => (K9f hc 1 [] [] [] (sN (K9f hc 3 [] [(7,.bool (decide (a0 < b1)))] [] (ic h (fun a1 h => ?_) fun a1 h => ?_))))
 ·obtain rfl := os h
  exact rs0 hc 2 [(4,I a0)] [] (rt (rq [true]))
 obtain rfl := os h
 exact sk (rs0 hc 2 [(4,I b1)] [] (rt (rq [true])))
def K9w (code0 : (List Int)) : Option (Int) :=
 (K9t ((wr (Int.tdiv (code0.length : Int) 60)),2)) >>= fun a0 =>
 some (wr (2 + a0))
def K9x (code0 : (List Int)) (r : Int) : Prop :=
 Q77 Tryz.prog 110 [sM U8 code0] (I r) []
theorem K9y : ∀ p r,K9w p = some r → K9x p r := by
 rintro code0 r h
 unfold K9w at h
 refine b0 Tryz.f110 K3i 8 [(0,sM U8 code0)] fun c hc => (K9f hc 1 [] [] [] ?_)
 obtain ⟨a0,a1,h⟩ := Qe5 h
 obtain rfl := os h
 exact rs hc none [oN,nQ ⟨[(4,I (code0.length : Int))],[],[]⟩,oN,oc (I a0),oN,oN] [(2,I (wr (2 + a0)))] [] (ab (Qeb (d := 4) U8 code0) ((by decide) : (60 : Int) ≠ 0) (cq (K9v _ _ a1) K3h tv)) (rt (rq [true]))
def K9z (c0 : K02) : Option (Int × K02) :=
 ((
 if (decide (c0.fi < (c0.fb.length : Int))) = true then
 (idx c0.fb c0.fi) >>= fun a0 =>
 some (((Q2r .and .i64 (wr ((Q2r .and .i64 (Q2r .xor .i64 (Q2t .i64 (wr ((wr (c0.fh * 6364136223846793005)) + 1442695040888963407)) 33) (Q2t .i64 (wr ((wr (c0.fh * 6364136223846793005)) + 1442695040888963407)) 45)) 255) + (wr a0))) 255),(wr (c0.fi + 1))))
 else
 some (((Q2r .and .i64 (Q2r .xor .i64 (Q2t .i64 (wr ((wr (c0.fh * 6364136223846793005)) + 1442695040888963407)) 33) (Q2t .i64 (wr ((wr (c0.fh * 6364136223846793005)) + 1442695040888963407)) 45)) 255),c0.fi))
 ) : Option (Int × Int)) >>= fun (a1,a2) =>
 some (a1,(K02.mk c0.fb a2 (wr ((wr (c0.fh * 6364136223846793005)) + 1442695040888963407))))
def Ka0 (c0 : K02) (r : Int × K02) : Prop :=
 Q77 Tryz.prog 174 [K23 c0] (I r.1) [K23 r.2]
theorem Ka1 : ∀ p r,K9z p = some r → Ka0 p r := by
 rintro c0 r h
 unfold K9z at h
 refine Q77.bodyO K3d (fn := Tryz.f174) (code := K3k) (by kernel_rfl) (by kernel_rfl) (by kernel_rfl) (nt := 58) (by kernel_rfl) (by kernel_rfl) (T := [(0,.ra 1000 0)]) (O := [(1000,K21 c0)]) (by kernel_rfl) (by kernel_rfl) (fun c hc => ?_)
 refine K9e hc 1 [(0,.ra 1000 0)] (K9f hc 10 [] [] [(1000,.box [sM U8 c0.fb,I c0.fi,I (wr ((wr (c0.fh * 6364136223846793005)) + 1442695040888963407))])] (K9g hc (rx [[0],[1],[2],[3],[4],[0],[0,5],[0,5,6],[0,5,6,7],[0,5,6,7,8],[10],[11],[12]]) (nN 13 []) [] [(3,I (Q2r .and .i64 (Q2r .xor .i64 (Q2t .i64 (wr ((wr (c0.fh * 6364136223846793005)) + 1442695040888963407)) 33) (Q2t .i64 (wr ((wr (c0.fh * 6364136223846793005)) + 1442695040888963407)) 45)) 255))] (ab ((by decide) : (0 : Int) ≤ 33) ((by decide) : (0 : Int) ≤ 45) tv) (sN (K9g hc (rx [[0],[1],[2],[3],[0],[0,4],[0,4,5],[0,4,5,6],[0,4,5,6,7],[9]]) (nN 8 [nQ ⟨[(33,I (c0.fb.length : Int))],[],[]⟩,oN]) [] [(34,.bool (decide (c0.fi < (c0.fb.length : Int))))] (ai (Qeb (d := 33) U8 c0.fb) tv) ?_))))
 obtain ⟨⟨a0,a1⟩,a2,h⟩ := Qe5 h
 refine Wp.into (x := .normal) (mkS [(3,I a0)] [(1000,.box [sM U8 c0.fb,I a1,I (wr ((wr (c0.fh * 6364136223846793005)) + 1442695040888963407))])]) ?_ ?_
 ·replace h := a2
  refine ic h (fun a3 h => ?_) fun a3 h => ?_
  ·obtain ⟨a4,a5,h⟩ := Qe5 h
   refine K9g hc (rx [[0],[0],[0,1],[0,1,2],[0,1,2,3],[0],[0,5],[0,5,6],[0,5,6,7],[0,1,2,3,4,5,6,7,8],[0,1,2,3,4,5,6,7,8,9],[0,1,2,3,4,5,6,7,8,9,10],[12],[13],[14]]) (nN 9 ([eL (.int .u8 a4)]++nN 5 [])) [34,3] [(3,I (Q2r .and .i64 (wr ((Q2r .and .i64 (Q2r .xor .i64 (Q2t .i64 (wr ((wr (c0.fh * 6364136223846793005)) + 1442695040888963407)) 33) (Q2t .i64 (wr ((wr (c0.fh * 6364136223846793005)) + 1442695040888963407)) 45)) 255) + (wr a4))) 255))] (ai (Qe9 (enc := U8) (x := .int .u8 a4) a5 (Qel a4)) tv) ?_
   obtain ⟨rfl,rfl⟩ := Prod.mk.inj (os h)
   exact rj0 hc 9
  refine sk ?_
  obtain ⟨rfl,rfl⟩ := Prod.mk.inj (os h)
  exact iv []
 clear a2
 obtain rfl := os h
 exact K9e hc 2 [(2,I a0)] (rt (rr [true]))
def Ka2 (p : K02 × Int) : Option (Int × K02) :=
 match p with
 | (c0,n1) =>
  if (decide (n1 ≤ 0)) = true then
  some (0,c0)
  else
  if (decide (n1 ≤ 256)) = true then
  (K9z c0) >>= fun (a0,a1) =>
  (chk (n1 ≠ 0)) >>= fun _ =>
  some ((Int.tmod a0 n1),a1)
  else
  (K9z c0) >>= fun (a2,a3) =>
  (K9z a3) >>= fun (a4,a5) =>
  (K9z a5) >>= fun (a6,a7) =>
  (K9z a7) >>= fun (a8,a9) =>
  (chk (n1 ≠ 0)) >>= fun _ =>
  some ((Int.tmod (wr ((wr ((wr ((wr (a2 * 16777216)) + (wr (a4 * 65536)))) + (wr (a6 * 256)))) + a8)) n1),a9)
def Ka3 (p : K02 × Int) (r : Int × K02) : Prop :=
 match p with
 | (c0,n1) => Q77 Tryz.prog 90 [K23 c0,I n1] (I r.1) [K23 r.2,.undef]
theorem Ka4 : ∀ p r,Ka2 p = some r → Ka3 p r := by
 rintro ⟨c0,n1⟩ r h
 unfold Ka2 at h
 refine Q77.bodyO K3d (fn := Tryz.f90) (code := B90) (by kernel_rfl) (by kernel_rfl) (by kernel_rfl) (nt := 37) (by kernel_rfl) (by kernel_rfl) (T := [(0,.ra 1000 0),(1,I n1)]) (O := [(1000,K21 c0)]) (by kernel_rfl) (by kernel_rfl) (fun c hc => ?_)
 refine K9e hc 1 [(0,.ra 1000 0),(1,I n1)] (sN (K9h hc 2 [] [(10,.bool (decide (n1 ≤ 0)))] (ic h (fun a0 h => ?_) fun a0 h => ?_)))
 ·obtain rfl := os h
  exact K9e hc 1 [(4,I 0)] (rt (rr [true]))
 refine sk (sN (K9h hc 2 [10] [(12,.bool (decide (n1 ≤ 256)))] (ic h (fun a1 h => ?_) fun a1 h => ?_)))
 ·obtain ⟨⟨a2,a3⟩,a4,h⟩ := Qe5 h
  obtain ⟨_,a5,h⟩ := Qe5 h
  obtain rfl := os h
  exact rs hc none [oN,some (.call (I a2) [K23 a3] 1),oN,oN,oN] [(4,I (Int.tmod a2 n1))] [(1000,K21 a3)] (ac (Ka1 _ _ a4) K3l (Qe7 a5) tv) (rt (rr [true]))
 refine sk ?_
 obtain ⟨⟨a6,a7⟩,a8,h⟩ := Qe5 h
 refine rsd hc none [oN,some (.call (I a6) [K23 a7] 1),oN] [12] [(5,I a6)] [(1000,K21 a7)] (ab (Ka1 _ _ a8) K3l tv) ?_
 obtain ⟨⟨a9,b1⟩,b2,h⟩ := Qe5 h
 refine rsd hc none [oN,some (.call (I a9) [K23 b1] 1),oN] [] [(6,I a9)] [(1000,K21 b1)] (ab (Ka1 _ _ b2) K3l tv) ?_
 obtain ⟨⟨b3,b4⟩,b5,h⟩ := Qe5 h
 refine rsd hc none [oN,some (.call (I b3) [K23 b4] 1),oN] [] [(7,I b3)] [(1000,K21 b4)] (ab (Ka1 _ _ b5) K3l tv) ?_
 obtain ⟨⟨b6,b7⟩,b8,h⟩ := Qe5 h
 refine rs hc none [oN,some (.call (I b6) [K23 b7] 1),oN] [(1,I n1),(5,I a6),(6,I a9),(7,I b3),(8,I b6)] [(1000,K21 b7)] (ab (Ka1 _ _ b8) K3l tv) ?_
 obtain ⟨_,b9,h⟩ := Qe5 h
 obtain rfl := os h
 exact rss hc none (nN 13 []) [(4,I (Int.tmod (wr ((wr ((wr ((wr (a6 * 16777216)) + (wr (a9 * 65536)))) + (wr (b3 * 256)))) + b6)) n1))] (ai (Qe7 b9) tv) (rt (rr [true]))
def Ka5 (p : K02 × Int) : Option (Bool × K02) :=
 match p with
 | (c0,n1) =>
  (Ka2 (c0,n1)) >>= fun (a0,a1) =>
  some ((a0 == 0),a1)
def Ka6 (p : K02 × Int) (r : Bool × K02) : Prop :=
 match p with
 | (c0,n1) => Q77 Tryz.prog 73 [K23 c0,I n1] (.bool r.1) [K23 r.2,.undef]
theorem Ka7 : ∀ p r,Ka5 p = some r → Ka6 p r := by
 rintro ⟨c0,n1⟩ r h
 unfold Ka5 at h
 refine Q77.bodyO K3d (fn := Tryz.f73) (code := B73) (by kernel_rfl) (by kernel_rfl) (by kernel_rfl) (nt := 9) (by kernel_rfl) (by kernel_rfl) (T := [(0,.ra 1000 0),(1,I n1)]) (O := [(1000,K21 c0)]) (by kernel_rfl) (by kernel_rfl) (fun c hc => ?_)
 refine K9e hc 1 [(0,.ra 1000 0),(1,I n1)] ?_
 obtain ⟨⟨a0,a1⟩,a2,h⟩ := Qe5 h
 obtain rfl := os h
 exact rs hc none [oN,oN,some (.call (I a0) [K23 a1,.undef] 1),oN,oN] [(4,.bool (a0 == 0))] [(1000,K21 a1)] (ab (Ka4 _ _ a2) K3m tv) (rt (rr [true]))
def Ka8 (p : Int × Int × Int) : Option (Bool) :=
 match p with
 | (n0,low1,high2) =>
  ((
  if (decide (n0 ≥ low1)) = true then
  some ((decide (n0 ≤ high2)))
  else
  some (false)
  ) : Option (Bool)) >>= fun a0 =>
  some a0
def Ka9 (p : Int × Int × Int) (r : Bool) : Prop :=
 match p with
 | (n0,low1,high2) => Q77 Tryz.prog 119 [I n0,I low1,I high2] (.bool r) []
theorem Kaa : ∀ p r,Ka8 p = some r → Ka9 p r := by
 rintro ⟨n0,low1,high2⟩ r h
 unfold Ka8 at h
 refine b0 Tryz.f119 K3o 15 [(0,I n0),(1,I low1),(2,I high2)] fun c hc => (K9f hc 1 [] [] [] (sN ?_))
 obtain ⟨a0,a1,h⟩ := Qe5 h
 refine Wp.into (x := .normal) (mkS [(6,.bool a0)] []) ?_ ?_
 ·replace h := a1
  rcases is h with ⟨a2,h⟩ | ⟨a2,h⟩
  ·obtain rfl := os h
   exact rj hc none (nN 7 [oT,oN]) (ar 4 a2 tv)
  obtain rfl := os h
  exact rj hc none (nN 4 [o_,o_,o_,oF,oN]) (ar 3 (neT a2) (ai a2 tv))
 clear a1
 obtain rfl := os h
 exact rt (rq [true])
def Kab (c : Ctx) (n0 : Int) (bound1 : Bool) (a0 : Int) : (List Int) × (List Int) × (List Bool) → Exit → Q0a → Prop
 | (a1,a2,a3) => Qdr c (.exit 2) (mkS [(1,.bool bound1),(4,.ra 1 0),(5,.ra 2 0),(6,I (wr (n0 + 1))),(7,I a0)] [(1,zS),(2,.box [I (wr (n0 + 2)),.rs 27,.rs 28,.rs 29]),(27,rI a1),(28,rI a2),(29,rM AV.bool a3)])
def Kac (p : Int × Bool × Int × (List Int) × (List Int) × (List Bool) × Int) : Option ((List Int) × (List Int) × (List Bool)) :=
 match p with
 | (n0,bound1,a0,a1,a2,a3,a4) =>
  if (decide (a4 ≤ (wr (n0 + 1)))) = true then
  (K9t ((wr (a0 + a4)),(wr (n0 + 1)))) >>= fun a5 =>
  (K9t ((wr (a0 * a4)),(wr (n0 + 1)))) >>= fun a6 =>
  (Qei (a1.length + [a5].length) 8) >>= fun _ =>
  (Qei (a2.length + [a6].length) 8) >>= fun _ =>
  ((
  if (a0 == a4) = true then
  (Qei (a3.length + [true].length) 1) >>= fun _ =>
  some ((a3 ++ [true]))
  else
  if (a4 == (wr (n0 + 1))) = true then
  (Qei (a3.length + [true].length) 1) >>= fun _ =>
  some ((a3 ++ [true]))
  else
  if bound1 = true then
  (Qei (a3.length + [(decide (a0 ≤ a4))].length) 1) >>= fun _ =>
  some ((a3 ++ [(decide (a0 ≤ a4))]))
  else
  (Qei (a3.length + [false].length) 1) >>= fun _ =>
  some ((a3 ++ [false]))
  ) : Option ((List Bool))) >>= fun a7 =>
  Kac (n0,bound1,a0,(a1 ++ [a5]),(a2 ++ [a6]),a7,(wr (a4 + 1)))
  else
  some ((a1,a2,a3))
 partial_fixpoint
def Kad (p : Int × Bool × Int × (List Int) × (List Int) × (List Bool) × Int) (fl : (List Int) × (List Int) × (List Bool)) : Prop :=
 match p with
 | (n0,bound1,a0,a1,a2,a3,a4) => ∀ c : Ctx,c.nt = 74 → WpL Tryz.prog c (cl (cl (cr (cl (cl (cr (cl (cl (cr (cl (cr (cr (cr (cr K3q)))))))))))))) (Kab c n0 bound1 a0 fl) (mkS [(1,.bool bound1),(4,.ra 1 0),(5,.ra 2 0),(6,I (wr (n0 + 1))),(7,I a0),(8,I a4)] [(1,zS),(2,.box [I (wr (n0 + 2)),.rs 27,.rs 28,.rs 29]),(27,rI a1),(28,rI a2),(29,rM AV.bool a3)])
theorem Kae : ∀ p r,Kac p = some r → Kad p r := by
 refine Kac.partial_correctness Kad ?_
 rintro spec_l1Numbers_l0_f spec_l1Numbers_l0_ih ⟨n0,bound1,a0,a1,a2,a3,a4⟩ r h
 intro c hc
 refine WpL.step (sN (K9h hc 3 [] [(27,.bool (decide (a4 ≤ (wr (n0 + 1)))))] (ic h (fun a5 h => ?_) fun a5 h => ?_)))
 ·refine sk (sN (bk 3 ?_))
  obtain ⟨a6,a7,h⟩ := Qe5 h
  refine K9g hc none (nN 4 [oc (I a6),oN]) [27] [(9,I a6)] (cq (K9v _ _ a7) K3h tv) ?_
  obtain ⟨a8,a9,h⟩ := Qe5 h
  refine K9g hc none (nN 4 [oc (I a8),oN]) [] [(10,I a8)] (cq (K9v _ _ a9) K3h tv) ?_
  obtain ⟨_,b1,h⟩ := Qe5 h
  refine rsd hc none [oN,oN,oN,mK 48,some (.eqv (.mk 49 true) ⟨[(44,.rs 49)],[(49,some (rI (a1 ++ [a6]))),(27,none),(48,none)],[49]⟩),oN,oN] [9] [] [(1,zS),(2,.box [I (wr (n0 + 2)),.rs 49,.rs 28,.rs 29]),(28,rI a2),(29,rM AV.bool a3),(49,rI (a1 ++ [a6]))] (ab (congrArg (fun z => (⟨[(44,.rs 49)],[(49,some (.arr z)),(27,none),(48,none)],[49]⟩ : Wr)) ((List.map_append).symm : (List.map I a1) ++ (List.map I [a6]) = List.map I (a1 ++ [a6]))) (Qej (enc1 := I) (enc2 := I) (e1 := a1) (e2 := [a6]) (sz := 1) Qes Qes b1) tv) ?_
  obtain ⟨_,b2,h⟩ := Qe5 h
  refine rsd hc none [oN,oN,oN,mK 50,some (.eqv (.mk 51 true) ⟨[(50,.rs 51)],[(51,some (rI (a2 ++ [a8]))),(28,none),(50,none)],[51]⟩),oN,oN] [10] [] [(1,zS),(2,.box [I (wr (n0 + 2)),.rs 49,.rs 51,.rs 29]),(29,rM AV.bool a3),(49,rI (a1 ++ [a6])),(51,rI (a2 ++ [a8]))] (ab (congrArg (fun z => (⟨[(50,.rs 51)],[(51,some (.arr z)),(28,none),(50,none)],[51]⟩ : Wr)) ((List.map_append).symm : (List.map I a2) ++ (List.map I [a8]) = List.map I (a2 ++ [a8]))) (Qej (enc1 := I) (enc2 := I) (e1 := a2) (e2 := [a8]) (sz := 1) Qes Qes b2) tv) ?_
  obtain ⟨b3,b4,h⟩ := Qe5 h
  refine Wp.into (x := .normal) (mkS [(1,.bool bound1),(4,.ra 1 0),(5,.ra 2 0),(6,I (wr (n0 + 1))),(7,I a0),(8,I a4)] [(1,zS),(2,.box [I (wr (n0 + 2)),.rs 49,.rs 51,.rs 53]),(49,rI (a1 ++ [a6])),(51,rI (a2 ++ [a8])),(53,rM AV.bool b3)]) ?_ ?_
  ·replace h := b4
   rcases is h with ⟨b5,h⟩ | ⟨b5,h⟩
   ·obtain ⟨_,b6,h⟩ := Qe5 h
    obtain rfl := os h
    exact rj hc none (nN 6 ([o_,o_,o_,oT,oN]++n_ 6 [oT,mK 52,some (.eqv (.mk 53 true) ⟨[(71,.rs 53)],[(53,some (rM AV.bool (a3 ++ [true]))),(29,none),(52,none)],[53]⟩),oN,oN])) (ar 3 (neF b5) (ai b5 (ar 3 nf (ac tt (congrArg (fun z => (⟨[(71,.rs 53)],[(53,some (.arr z)),(29,none),(52,none)],[53]⟩ : Wr)) ((List.map_append).symm : (List.map AV.bool a3) ++ (List.map AV.bool [true]) = List.map AV.bool (a3 ++ [true]))) (Qej (enc1 := AV.bool) (enc2 := AV.bool) (e1 := a3) (e2 := [true]) (sz := 1) Qeu Qeu b6) tv))))
   rcases is h with ⟨b7,h⟩ | ⟨b7,h⟩
   ·obtain ⟨_,b6,h⟩ := Qe5 h
    obtain rfl := os h
    exact rj hc none (nN 9 ([oF,oN]++n_ 6 [oT,mK 52,some (.eqv (.mk 53 true) ⟨[(71,.rs 53)],[(53,some (rM AV.bool (a3 ++ [true]))),(29,none),(52,none)],[53]⟩),oN,oN])) (ar 4 b5 (ar 3 (neF b7) (ac b7 (congrArg (fun z => (⟨[(71,.rs 53)],[(53,some (.arr z)),(29,none),(52,none)],[53]⟩ : Wr)) ((List.map_append).symm : (List.map AV.bool a3) ++ (List.map AV.bool [true]) = List.map AV.bool (a3 ++ [true]))) (Qej (enc1 := AV.bool) (enc2 := AV.bool) (e1 := a3) (e2 := [true]) (sz := 1) Qeu Qeu b6) tv)))
   rcases is h with ⟨b8,h⟩ | ⟨b8,h⟩
   ·obtain ⟨_,b6,h⟩ := Qe5 h
    obtain rfl := os h
    exact rj hc none (nN 9 ([oF]++nN 6 [oT,oF,mK 52,some (.eqv (.mk 53 true) ⟨[(71,.rs 53)],[(53,some (.arr (List.map AV.bool (a3 ++ [(decide (a0 ≤ a4))])))),(29,none),(52,none)],[53]⟩),oN,oN])) (ar 4 b5 (ar 2 b7 (ar 3 b8 (ad b7 b8 b7 (congrArg (fun z => (⟨[(71,.rs 53)],[(53,some (.arr z)),(29,none),(52,none)],[53]⟩ : Wr)) ((List.map_append).symm : (List.map AV.bool a3) ++ (List.map AV.bool [(decide (a0 ≤ a4))]) = List.map AV.bool (a3 ++ [(decide (a0 ≤ a4))]))) (ai (Qej (enc1 := AV.bool) (enc2 := AV.bool) (e1 := a3) (e2 := [(decide (a0 ≤ a4))]) (sz := 1) Qeu Qeu b6) tv)))))
   obtain ⟨_,b6,h⟩ := Qe5 h
   obtain rfl := os h
   exact rj hc none (nN 9 [oF,oN,oN,oN,o_,o_,o_,oF,oF,mK 52,some (.eqv (.mk 53 true) ⟨[(71,.rs 53)],[(53,some (rM AV.bool (a3 ++ [false]))),(29,none),(52,none)],[53]⟩),oN,oN]) (ar 4 b5 (ar 2 b7 (ar 3 (neT b8) (ad b7 b8 b7 (congrArg (fun z => (⟨[(71,.rs 53)],[(53,some (.arr z)),(29,none),(52,none)],[53]⟩ : Wr)) ((List.map_append).symm : (List.map AV.bool a3) ++ (List.map AV.bool [false]) = List.map AV.bool (a3 ++ [false]))) (ai (Qej (enc1 := AV.bool) (enc2 := AV.bool) (e1 := a3) (e2 := [false]) (sz := 1) Qeu Qeu b6) tv)))))
  clear b4
  exact K9a hc 3 [(1,.bool bound1),(4,.ra 1 0),(5,.ra 2 0),(6,I (wr (n0 + 1))),(7,I a0),(8,I (wr (a4 + 1)))] (Qdn (WpL.view (fun a w hv => SRx.renL [(27,49),(28,51),(29,53)] hv (by kernel_rfl) (by kernel_rfl) (by kernel_rfl)) (spec_l1Numbers_l0_ih _ _ h c hc)))
 refine xt 2 (Qdh (Qdo ?_))
 obtain ⟨rfl,hq0⟩ := Prod.mk.inj (os h)
 obtain ⟨rfl,rfl⟩ := Prod.mk.inj (hq0)
 exact iv []
def Kaf (c : Ctx) (n0 : Int) : (List Int) × (List Int) × (List Bool) → Exit → Q0a → Prop
 | (a0,a1,a2) => Qdr c (.exit 0) (mkS [(4,.ra 1 0),(5,.ra 2 0)] [(1,zS),(2,.box [I (wr (n0 + 2)),.rs 27,.rs 28,.rs 29]),(27,rI a0),(28,rI a1),(29,rM AV.bool a2)])
def Kag (p : Int × Bool × (List Int) × (List Int) × (List Bool) × Int) : Option ((List Int) × (List Int) × (List Bool)) :=
 match p with
 | (n0,bound1,a0,a1,a2,a3) =>
  if (decide (a3 ≤ (wr (n0 + 1)))) = true then
  (Kac (n0,bound1,a3,a0,a1,a2,0)) >>= fun (a4,a5,a6) =>
  Kag (n0,bound1,a4,a5,a6,(wr (a3 + 1)))
  else
  some ((a0,a1,a2))
 partial_fixpoint
def Kah (p : Int × Bool × (List Int) × (List Int) × (List Bool) × Int) (fl : (List Int) × (List Int) × (List Bool)) : Prop :=
 match p with
 | (n0,bound1,a0,a1,a2,a3) => ∀ c : Ctx,c.nt = 74 → WpL Tryz.prog c (cl (cl (cr (cl (cr (cr (cr (cr K3q)))))))) (Kaf c n0 fl) (mkS [(1,.bool bound1),(4,.ra 1 0),(5,.ra 2 0),(6,I (wr (n0 + 1))),(7,I a3)] [(1,zS),(2,.box [I (wr (n0 + 2)),.rs 27,.rs 28,.rs 29]),(27,rI a0),(28,rI a1),(29,rM AV.bool a2)])
theorem Kai : ∀ p r,Kag p = some r → Kah p r := by
 refine Kag.partial_correctness Kah ?_
 rintro spec_l1Numbers_l1_f spec_l1Numbers_l1_ih ⟨n0,bound1,a0,a1,a2,a3⟩ r h
 intro c hc
 refine WpL.step (sN (K9h hc 3 [] [(22,.bool (decide (a3 ≤ (wr (n0 + 1)))))] (ic h (fun a4 h => ?_) fun a4 h => ?_)))
 ·refine sk (sN (bk 1 (K9e hc 1 [(1,.bool bound1),(4,.ra 1 0),(5,.ra 2 0),(6,I (wr (n0 + 1))),(7,I a3),(8,I 0)] (bk 2 ?_))))
  obtain ⟨⟨a5,a6,a7⟩,a8,h⟩ := Qe5 h
  have hL := Kae _ _ a8 c hc
  exact lp (wl hL (Qdj (ri0 hc 3 (Qdn (spec_l1Numbers_l1_ih _ _ h c hc)))))
 refine xt 0 (Qdh (Qdo ?_))
 obtain ⟨rfl,hq0⟩ := Prod.mk.inj (os h)
 obtain ⟨rfl,rfl⟩ := Prod.mk.inj (hq0)
 exact iv []
def Kaj (p : Int × Bool) : Option (K00) :=
 match p with
 | (n0,bound1) =>
  (Ka8 (n0,1,14)) >>= fun a0 =>
  if a0 = true then
  (Kag (n0,bound1,[],[],[],0)) >>= fun (a1,a2,a3) =>
  some (K00.mk (wr (n0 + 2)) a1 a2 a3)
  else
  some (K00.mk 0 [] [] [])
def Kak (p : Int × Bool) (r : K00) : Prop :=
 match p with
 | (n0,bound1) => Q77 Tryz.prog 121 [I n0,.bool bound1] (K2d r) []
theorem Kal : ∀ p r,Kaj p = some r → Kak p r := by
 rintro ⟨n0,bound1⟩ r h
 unfold Kaj at h
 refine b0 Tryz.f121 K3q 74 [(0,I n0),(1,.bool bound1)] fun c hc => (rsd hc none [nW 1] [] [(4,.ra 1 0)] [(1,zS)] tv (sN ?_))
 obtain ⟨a0,a1,h⟩ := Qe5 h
 refine K9g hc none [oN,oc (.bool a0),oN] [] [(13,.bool (!a0))] (cq (Kaa _ _ a1) K3p tv) ?_
 rcases is h with ⟨a2,h⟩ | ⟨a2,h⟩
 ·refine cF (!a0) (nF a2) (sk (rsd hc none [oN,oN,oN,nW 2,oN] [13] [(5,.ra 2 0)] [(1,zS),(2,.box [I (wr (n0 + 2)),.nils,.nils,.nils])] tv (K9h hc 3 [0] [(6,I (wr (n0 + 1)))] (sN (K9e hc 1 [(1,.bool bound1),(4,.ra 1 0),(5,.ra 2 0),(6,I (wr (n0 + 1))),(7,I 0)] (bk 0 ?_))))))
  obtain ⟨⟨a3,a4,a5⟩,a6,h⟩ := Qe5 h
  have hL := Kai _ _ a6 c hc
  refine Wp.loopN (by kernel_rfl) (WpL.view (fun a w hv => SRx.renL [(27,54),(28,55),(29,56)] (SRx.nilBL 2 3 56 [I (wr (n0 + 2)),.rs 54,.rs 55,.nils] (SRx.nilBL 2 2 55 [I (wr (n0 + 2)),.rs 54,.nils,.nils] (SRx.nilBL 2 1 54 [I (wr (n0 + 2)),.nils,.nils,.nils] hv (by kernel_rfl) (by kernel_rfl) (by kernel_rfl)) (by kernel_rfl) (by kernel_rfl) (by kernel_rfl)) (by kernel_rfl) (by kernel_rfl) (by kernel_rfl)) (by kernel_rfl) (by kernel_rfl) (by kernel_rfl)) (?_ : WpL _ c _ _ (mkS [(1,.bool bound1),(4,.ra 1 0),(5,.ra 2 0),(6,I (wr (n0 + 1))),(7,I 0)] [(1,zS),(2,.box [I (wr (n0 + 2)),.rs 27,.rs 28,.rs 29]),(27,.arr (List.map I [])),(28,.arr (List.map I [])),(29,.arr (List.map AV.bool []))])))
  refine wl hL ?_
  obtain rfl := os h
  exact Qdj (K9f hc 2 [5] [] [(1,.box [I (wr (n0 + 2)),.rs 27,.rs 28,.rs 29]),(27,rI a3),(28,rI a4),(29,rM AV.bool a5)] (rt (rq [true])))
 refine cT (!a0) (nT a2) ?_
 obtain rfl := os h
 exact K9h hc 2 [13,0,1] [] (rt (rq [true]))
def Kam (n0 : Int) : Option (K00) :=
 (Kaj (n0,true)) >>= fun a0 =>
 some a0
def Kan (n0 : Int) (r : K00) : Prop :=
 Q77 Tryz.prog 152 [I n0] (K2d r) []
theorem Kao : ∀ p r,Kam p = some r → Kan p r := by
 rintro n0 r h
 unfold Kam at h
 refine b0 Tryz.f152 K3s 5 [(0,I n0)] fun c hc => (rsd hc none [nW 1] [] [(2,.ra 1 0)] [(1,zS)] tv ?_)
 obtain ⟨a0,a1,h⟩ := Qe5 h
 obtain rfl := os h
 exact rsd hc none [oN,some (.call (K2d a0) [] 2),oN] [0] [] [(1,.box [I a0.fSize,.rs 2,.rs 3,.rs 4]),(2,rI a0.fPlus),(3,rI a0.fTimes),(4,rM AV.bool a0.fBelow)] (cq (Kal _ _ a1) K3r tv) (rt (rq [true]))
def Kap (n0 : Int) : Option (K00) :=
 (Kaj (n0,false)) >>= fun a0 =>
 some a0
def Kaq (n0 : Int) (r : K00) : Prop :=
 Q77 Tryz.prog 47 [I n0] (K2d r) []
theorem Kar : ∀ p r,Kap p = some r → Kaq p r := by
 rintro n0 r h
 unfold Kap at h
 refine b0 Tryz.f47 B47 5 [(0,I n0)] fun c hc => (rsd hc none [nW 1] [] [(2,.ra 1 0)] [(1,zS)] tv ?_)
 obtain ⟨a0,a1,h⟩ := Qe5 h
 obtain rfl := os h
 exact rsd hc none [oN,some (.call (K2d a0) [] 2),oN] [0] [] [(1,.box [I a0.fSize,.rs 2,.rs 3,.rs 4]),(2,rI a0.fPlus),(3,rI a0.fTimes),(4,rM AV.bool a0.fBelow)] (cq (Kal _ _ a1) K3r tv) (rt (rq [true]))
def Kas (p : Int × Int) : Option (Int) :=
 match p with
 | (a0,b1) =>
  if (decide (a0 > b1)) = true then
  some a0
  else
  some b1
def Kat (p : Int × Int) (r : Int) : Prop :=
 match p with
 | (a0,b1) => Q77 Tryz.prog 100 [I a0,I b1] (I r) []
theorem Kau : ∀ p r,Kas p = some r → Kat p r := by
 rintro ⟨a0,b1⟩ r h
 unfold Kas at h
 refine b0 Tryz.f100 K3v 10 [(0,I a0),(1,I b1)] fun c hc => (K9f hc 1 [] [] [] (sN (K9f hc 3 [] [(7,.bool (decide (a0 > b1)))] [] (ic h (fun a1 h => ?_) fun a1 h => ?_))))
 ·obtain rfl := os h
  exact rs0 hc 2 [(4,I a0)] [] (rt (rq [true]))
 obtain rfl := os h
 exact sk (rs0 hc 2 [(4,I b1)] [] (rt (rq [true])))
def Kav (c : Ctx) (n0 : Int) (a0 : Int) : (List Int) × (List Int) × (List Bool) → Exit → Q0a → Prop
 | (a1,a2,a3) => Qdr c (.exit 2) (mkS [(0,I n0),(2,.ra 1 0),(3,.ra 2 0),(4,I a0)] [(1,zS),(2,.box [I (wr (n0 + 1)),.rs 27,.rs 28,.rs 29]),(27,rI a1),(28,rI a2),(29,rM AV.bool a3)])
def Kaw (p : Int × Int × (List Int) × (List Int) × (List Bool) × Int) : Option ((List Int) × (List Int) × (List Bool)) :=
 match p with
 | (n0,a0,a1,a2,a3,a4) =>
  if (decide (a4 ≤ n0)) = true then
  (chk ((wr (n0 + 1)) ≠ 0)) >>= fun _ =>
  (chk ((wr (n0 + 1)) ≠ 0)) >>= fun _ =>
  (Kas ((Int.tmod (wr ((wr (n0 + 1)) - a0)) (wr (n0 + 1))),(Int.tmod (wr ((wr (n0 + 1)) - a4)) (wr (n0 + 1))))) >>= fun a5 =>
  (chk ((wr (n0 + 1)) ≠ 0)) >>= fun _ =>
  (K9t ((Int.tmod (wr ((wr (n0 + 1)) - a0)) (wr (n0 + 1))),(Int.tmod (wr ((wr (n0 + 1)) - a4)) (wr (n0 + 1))))) >>= fun a6 =>
  (chk ((wr (n0 + 1)) ≠ 0)) >>= fun _ =>
  (Qei (a1.length + [(Int.tmod (wr ((wr (n0 + 1)) - a5)) (wr (n0 + 1)))].length) 8) >>= fun _ =>
  (Qei (a2.length + [(Int.tmod (wr ((wr (n0 + 1)) - a6)) (wr (n0 + 1)))].length) 8) >>= fun _ =>
  (Qei (a3.length + [(decide ((Int.tmod (wr ((wr (n0 + 1)) - a0)) (wr (n0 + 1))) ≤ (Int.tmod (wr ((wr (n0 + 1)) - a4)) (wr (n0 + 1)))))].length) 1) >>= fun _ =>
  Kaw (n0,a0,(a1 ++ [(Int.tmod (wr ((wr (n0 + 1)) - a5)) (wr (n0 + 1)))]),(a2 ++ [(Int.tmod (wr ((wr (n0 + 1)) - a6)) (wr (n0 + 1)))]),(a3 ++ [(decide ((Int.tmod (wr ((wr (n0 + 1)) - a0)) (wr (n0 + 1))) ≤ (Int.tmod (wr ((wr (n0 + 1)) - a4)) (wr (n0 + 1)))))]),(wr (a4 + 1)))
  else
  some ((a1,a2,a3))
 partial_fixpoint
def Kax (p : Int × Int × (List Int) × (List Int) × (List Bool) × Int) (fl : (List Int) × (List Int) × (List Bool)) : Prop :=
 match p with
 | (n0,a0,a1,a2,a3,a4) => ∀ c : Ctx,c.nt = 80 → WpL Tryz.prog c (cl (cl (cr (cl (cl (cr (cl (cl (cr (cl (cr (cr (cr K3x))))))))))))) (Kav c n0 a0 fl) (mkS [(0,I n0),(2,.ra 1 0),(3,.ra 2 0),(4,I a0),(5,I a4)] [(1,zS),(2,.box [I (wr (n0 + 1)),.rs 27,.rs 28,.rs 29]),(27,rI a1),(28,rI a2),(29,rM AV.bool a3)])
theorem Kay : ∀ p r,Kaw p = some r → Kax p r := by
 refine Kaw.partial_correctness Kax ?_
 rintro spec_LevelSystem_l0_f spec_LevelSystem_l0_ih ⟨n0,a0,a1,a2,a3,a4⟩ r h
 intro c hc
 refine WpL.step (sN (K9h hc 3 [] [(24,.bool (decide (a4 ≤ n0)))] (ic h (fun a5 h => ?_) fun a5 h => ?_)))
 ·refine sk (sN (bk 3 ?_))
  obtain ⟨_,a6,h⟩ := Qe5 h
  refine K9g hc none (nN 8 []) [24] [(6,I (Int.tmod (wr ((wr (n0 + 1)) - a0)) (wr (n0 + 1))))] (ai (Qe7 a6) tv) ?_
  obtain ⟨_,a7,h⟩ := Qe5 h
  refine K9g hc none (nN 8 []) [] [(7,I (Int.tmod (wr ((wr (n0 + 1)) - a4)) (wr (n0 + 1))))] (ai (Qe7 a7) tv) ?_
  obtain ⟨a8,a9,_,b1,h⟩ := bq2 h
  refine K9g hc none (nN 4 ([oc (I a8)]++nN 5 [])) [] [(8,I (Int.tmod (wr ((wr (n0 + 1)) - a8)) (wr (n0 + 1))))] (cq (Kau _ _ a9) K3w (ai (Qe7 b1) tv)) ?_
  obtain ⟨b2,b3,_,b4,h⟩ := bq2 h
  refine K9g hc none (nN 4 ([oc (I b2)]++nN 5 [])) [] [(9,I (Int.tmod (wr ((wr (n0 + 1)) - b2)) (wr (n0 + 1))))] (cq (K9v _ _ b3) K3h (ai (Qe7 b4) tv)) ?_
  obtain ⟨_,b5,h⟩ := Qe5 h
  refine rs hc none [oN,oN,oN,mK 48,some (.eqv (.mk 49 true) ⟨[(63,.rs 49)],[(49,some (.arr (List.map I (a1 ++ [(Int.tmod (wr ((wr (n0 + 1)) - a8)) (wr (n0 + 1)))])))),(27,none),(48,none)],[49]⟩),oN,oN] [(0,I n0),(2,.ra 1 0),(3,.ra 2 0),(4,I a0),(5,I a4),(6,I (Int.tmod (wr ((wr (n0 + 1)) - a0)) (wr (n0 + 1)))),(7,I (Int.tmod (wr ((wr (n0 + 1)) - a4)) (wr (n0 + 1)))),(9,I (Int.tmod (wr ((wr (n0 + 1)) - b2)) (wr (n0 + 1))))] [(1,zS),(2,.box [I (wr (n0 + 1)),.rs 49,.rs 28,.rs 29]),(28,rI a2),(29,rM AV.bool a3),(49,.arr (List.map I (a1 ++ [(Int.tmod (wr ((wr (n0 + 1)) - a8)) (wr (n0 + 1)))])))] (ab (congrArg (fun z => (⟨[(63,.rs 49)],[(49,some (.arr z)),(27,none),(48,none)],[49]⟩ : Wr)) ((List.map_append).symm : (List.map I a1) ++ (List.map I [(Int.tmod (wr ((wr (n0 + 1)) - a8)) (wr (n0 + 1)))]) = List.map I (a1 ++ [(Int.tmod (wr ((wr (n0 + 1)) - a8)) (wr (n0 + 1)))]))) (Qej (enc1 := I) (enc2 := I) (e1 := a1) (e2 := [(Int.tmod (wr ((wr (n0 + 1)) - a8)) (wr (n0 + 1)))]) (sz := 1) Qes Qes b5) tv) ?_
  obtain ⟨_,b6,h⟩ := Qe5 h
  refine rsd hc none [oN,oN,oN,mK 50,some (.eqv (.mk 51 true) ⟨[(69,.rs 51)],[(51,some (.arr (List.map I (a2 ++ [(Int.tmod (wr ((wr (n0 + 1)) - b2)) (wr (n0 + 1)))])))),(28,none),(50,none)],[51]⟩),oN,oN] [9] [] [(1,zS),(2,.box [I (wr (n0 + 1)),.rs 49,.rs 51,.rs 29]),(29,rM AV.bool a3),(49,.arr (List.map I (a1 ++ [(Int.tmod (wr ((wr (n0 + 1)) - a8)) (wr (n0 + 1)))]))),(51,.arr (List.map I (a2 ++ [(Int.tmod (wr ((wr (n0 + 1)) - b2)) (wr (n0 + 1)))])))] (ab (congrArg (fun z => (⟨[(69,.rs 51)],[(51,some (.arr z)),(28,none),(50,none)],[51]⟩ : Wr)) ((List.map_append).symm : (List.map I a2) ++ (List.map I [(Int.tmod (wr ((wr (n0 + 1)) - b2)) (wr (n0 + 1)))]) = List.map I (a2 ++ [(Int.tmod (wr ((wr (n0 + 1)) - b2)) (wr (n0 + 1)))]))) (Qej (enc1 := I) (enc2 := I) (e1 := a2) (e2 := [(Int.tmod (wr ((wr (n0 + 1)) - b2)) (wr (n0 + 1)))]) (sz := 1) Qes Qes b6) tv) ?_
  obtain ⟨_,b7,h⟩ := Qe5 h
  exact rgd hc none (nN 5 [mK 52,some (.eqv (.mk 53 true) ⟨[(77,.rs 53)],[(53,some (.arr (List.map AV.bool (a3 ++ [(decide ((Int.tmod (wr ((wr (n0 + 1)) - a0)) (wr (n0 + 1))) ≤ (Int.tmod (wr ((wr (n0 + 1)) - a4)) (wr (n0 + 1)))))])))),(29,none),(52,none)],[53]⟩),oN,oN]) [6,7] [] [(1,zS),(2,.box [I (wr (n0 + 1)),.rs 49,.rs 51,.rs 53]),(49,.arr (List.map I (a1 ++ [(Int.tmod (wr ((wr (n0 + 1)) - a8)) (wr (n0 + 1)))]))),(51,.arr (List.map I (a2 ++ [(Int.tmod (wr ((wr (n0 + 1)) - b2)) (wr (n0 + 1)))]))),(53,.arr (List.map AV.bool (a3 ++ [(decide ((Int.tmod (wr ((wr (n0 + 1)) - a0)) (wr (n0 + 1))) ≤ (Int.tmod (wr ((wr (n0 + 1)) - a4)) (wr (n0 + 1)))))])))] (ab (congrArg (fun z => (⟨[(77,.rs 53)],[(53,some (.arr z)),(29,none),(52,none)],[53]⟩ : Wr)) ((List.map_append).symm : (List.map AV.bool a3) ++ (List.map AV.bool [(decide ((Int.tmod (wr ((wr (n0 + 1)) - a0)) (wr (n0 + 1))) ≤ (Int.tmod (wr ((wr (n0 + 1)) - a4)) (wr (n0 + 1)))))]) = List.map AV.bool (a3 ++ [(decide ((Int.tmod (wr ((wr (n0 + 1)) - a0)) (wr (n0 + 1))) ≤ (Int.tmod (wr ((wr (n0 + 1)) - a4)) (wr (n0 + 1)))))]))) (Qej (enc1 := AV.bool) (enc2 := AV.bool) (e1 := a3) (e2 := [(decide ((Int.tmod (wr ((wr (n0 + 1)) - a0)) (wr (n0 + 1))) ≤ (Int.tmod (wr ((wr (n0 + 1)) - a4)) (wr (n0 + 1)))))]) (sz := 1) Qeu Qeu b7) tv) (K9a hc 3 [(0,I n0),(2,.ra 1 0),(3,.ra 2 0),(4,I a0),(5,I (wr (a4 + 1)))] (Qdn (WpL.view (fun a w hv => SRx.renL [(27,49),(28,51),(29,53)] hv (by kernel_rfl) (by kernel_rfl) (by kernel_rfl)) (spec_LevelSystem_l0_ih _ _ h c hc))))
 refine xt 2 (Qdh (Qdo ?_))
 obtain ⟨rfl,hq0⟩ := Prod.mk.inj (os h)
 obtain ⟨rfl,rfl⟩ := Prod.mk.inj (hq0)
 exact iv []
def Kaz (c : Ctx) (n0 : Int) : (List Int) × (List Int) × (List Bool) → Exit → Q0a → Prop
 | (a0,a1,a2) => Qdr c (.exit 0) (mkS [(2,.ra 1 0),(3,.ra 2 0)] [(1,zS),(2,.box [I (wr (n0 + 1)),.rs 27,.rs 28,.rs 29]),(27,rI a0),(28,rI a1),(29,rM AV.bool a2)])
def Kb0 (p : Int × (List Int) × (List Int) × (List Bool) × Int) : Option ((List Int) × (List Int) × (List Bool)) :=
 match p with
 | (n0,a0,a1,a2,a3) =>
  if (decide (a3 ≤ n0)) = true then
  (Kaw (n0,a3,a0,a1,a2,0)) >>= fun (a4,a5,a6) =>
  Kb0 (n0,a4,a5,a6,(wr (a3 + 1)))
  else
  some ((a0,a1,a2))
 partial_fixpoint
def Kb1 (p : Int × (List Int) × (List Int) × (List Bool) × Int) (fl : (List Int) × (List Int) × (List Bool)) : Prop :=
 match p with
 | (n0,a0,a1,a2,a3) => ∀ c : Ctx,c.nt = 80 → WpL Tryz.prog c (cl (cl (cr (cl (cr (cr (cr K3x))))))) (Kaz c n0 fl) (mkS [(0,I n0),(2,.ra 1 0),(3,.ra 2 0),(4,I a3)] [(1,zS),(2,.box [I (wr (n0 + 1)),.rs 27,.rs 28,.rs 29]),(27,rI a0),(28,rI a1),(29,rM AV.bool a2)])
theorem Kb2 : ∀ p r,Kb0 p = some r → Kb1 p r := by
 refine Kb0.partial_correctness Kb1 ?_
 rintro spec_LevelSystem_l1_f spec_LevelSystem_l1_ih ⟨n0,a0,a1,a2,a3⟩ r h
 intro c hc
 refine WpL.step (sN (K9h hc 3 [] [(19,.bool (decide (a3 ≤ n0)))] (ic h (fun a4 h => ?_) fun a4 h => ?_)))
 ·refine sk (sN (bk 1 (K9e hc 1 [(0,I n0),(2,.ra 1 0),(3,.ra 2 0),(4,I a3),(5,I 0)] (bk 2 ?_))))
  obtain ⟨⟨a5,a6,a7⟩,a8,h⟩ := Qe5 h
  have hL := Kay _ _ a8 c hc
  exact lp (wl hL (Qdj (ri0 hc 3 (Qdn (spec_LevelSystem_l1_ih _ _ h c hc)))))
 refine xt 0 (Qdh (Qdo ?_))
 obtain ⟨rfl,hq0⟩ := Prod.mk.inj (os h)
 obtain ⟨rfl,rfl⟩ := Prod.mk.inj (hq0)
 exact iv []
def Kb3 (n0 : Int) : Option (K00) :=
 (Ka8 (n0,1,15)) >>= fun a0 =>
 if a0 = true then
 (Kb0 (n0,[],[],[],0)) >>= fun (a1,a2,a3) =>
 some (K00.mk (wr (n0 + 1)) a1 a2 a3)
 else
 some (K00.mk 0 [] [] [])
def Kb4 (n0 : Int) (r : K00) : Prop :=
 Q77 Tryz.prog 153 [I n0] (K2d r) []
theorem Kb5 : ∀ p r,Kb3 p = some r → Kb4 p r := by
 rintro n0 r h
 unfold Kb3 at h
 refine b0 Tryz.f153 K3x 80 [(0,I n0)] fun c hc => (rsd hc none [nW 1] [] [(2,.ra 1 0)] [(1,zS)] tv (sN ?_))
 obtain ⟨a0,a1,h⟩ := Qe5 h
 refine K9g hc none [oN,oc (.bool a0),oN] [] [(12,.bool (!a0))] (cq (Kaa _ _ a1) K3p tv) ?_
 rcases is h with ⟨a2,h⟩ | ⟨a2,h⟩
 ·refine cF (!a0) (nF a2) (sk (rsd hc none [oN,oN,oN,nW 2,oN] [12] [(3,.ra 2 0)] [(1,zS),(2,.box [I (wr (n0 + 1)),.nils,.nils,.nils])] tv (sN (K9e hc 1 [(0,I n0),(2,.ra 1 0),(3,.ra 2 0),(4,I 0)] (bk 0 ?_)))))
  obtain ⟨⟨a3,a4,a5⟩,a6,h⟩ := Qe5 h
  have hL := Kb2 _ _ a6 c hc
  refine Wp.loopN (by kernel_rfl) (WpL.view (fun a w hv => SRx.renL [(27,54),(28,55),(29,56)] (SRx.nilBL 2 3 56 [I (wr (n0 + 1)),.rs 54,.rs 55,.nils] (SRx.nilBL 2 2 55 [I (wr (n0 + 1)),.rs 54,.nils,.nils] (SRx.nilBL 2 1 54 [I (wr (n0 + 1)),.nils,.nils,.nils] hv (by kernel_rfl) (by kernel_rfl) (by kernel_rfl)) (by kernel_rfl) (by kernel_rfl) (by kernel_rfl)) (by kernel_rfl) (by kernel_rfl) (by kernel_rfl)) (by kernel_rfl) (by kernel_rfl) (by kernel_rfl)) (?_ : WpL _ c _ _ (mkS [(0,I n0),(2,.ra 1 0),(3,.ra 2 0),(4,I 0)] [(1,zS),(2,.box [I (wr (n0 + 1)),.rs 27,.rs 28,.rs 29]),(27,.arr (List.map I [])),(28,.arr (List.map I [])),(29,.arr (List.map AV.bool []))])))
  refine wl hL ?_
  obtain rfl := os h
  exact Qdj (K9f hc 2 [3] [] [(1,.box [I (wr (n0 + 1)),.rs 27,.rs 28,.rs 29]),(27,rI a3),(28,rI a4),(29,rM AV.bool a5)] (rt (rq [true])))
 refine cT (!a0) (nT a2) ?_
 obtain rfl := os h
 exact K9h hc 2 [12,0] [] (rt (rq [true]))
def Kb6 (c : Ctx) : (Unit) ⊕ (Bool) → Exit → Q0a → Prop
 | .inl _ => Qdr c (.exit 0) (mkS [] [])
 | .inr r => Qe0 TIx Tryz.f163 [] (.bool r)
def Kb7 (p : K00 × Int) : Option ((Unit) ⊕ (Bool)) :=
 match p with
 | (s0,a0) =>
  if (decide (a0 < (s0.fPlus.length : Int))) = true then
  ((
  (idx s0.fPlus a0) >>= fun a1 =>
  (Ka8 (a1,0,(wr (s0.fSize - 1)))) >>= fun a2 =>
  if a2 = true then
  (idx s0.fTimes a0) >>= fun a3 =>
  (Ka8 (a3,0,(wr (s0.fSize - 1)))) >>= fun a4 =>
  some ((!a4))
  else
  some (true)
  ) : Option (Bool)) >>= fun a5 =>
  if a5 = true then
  some (.inr false)
  else
  Kb7 (s0,(wr (a0 + 1)))
  else
  some (.inl ())
 partial_fixpoint
def Kb8 (p : K00 × Int) (fl : (Unit) ⊕ (Bool)) : Prop :=
 match p with
 | (s0,a0) => ∀ c : Ctx,c.nt = 70 → WpL Tryz.prog c (cl (cl (cr (cl (cr (cr K3z)))))) (Kb6 c fl) (mkS [(1,.ra 1 0),(3,I a0)] [(1,K1v s0)])
theorem Kb9 : ∀ p r,Kb7 p = some r → Kb8 p r := by
 refine Kb7.partial_correctness Kb8 ?_
 rintro spec_l1Tables_l0_f spec_l1Tables_l0_ih ⟨s0,a0⟩ r h
 intro c hc
 refine WpL.step (sN (K9g hc none [oN,oN,oN,nQ ⟨[(44,I (s0.fPlus.length : Int))],[],[]⟩,oN] [] [(45,.bool (decide (a0 < (s0.fPlus.length : Int))))] (ai (Qeb (d := 44) I s0.fPlus) tv) (ic h (fun a1 h => ?_) fun a1 h => ?_)))
 ·refine sk (sN (bk 1 (sN ?_)))
  obtain ⟨a2,a3,h⟩ := Qe5 h
  refine wi [45] [(69,.bool a2)] ?_ ?_
  ·replace h := a3
   obtain ⟨a4,a5,a6,a7,h⟩ := bq2 h
   rcases is h with ⟨a8,h⟩ | ⟨a8,h⟩
   ·obtain ⟨a9,b1,b2,b3,h⟩ := bq2 h
    obtain rfl := os h
    exact rj hc K9i ([oN,oN,oN,eL (I a4)]++nN 4 ([oc (.bool a6)]++nN 5 ([eL (I a9)]++nN 4 [oc (.bool b2),oN,oF]))) (ai (ix a5) (cq (Kaa _ _ a7) K3p (ar 4 (nF a8) (ai (ix b1) (ar 5 (nF a8) (cq (Kaa _ _ b3) K3p (ar 2 (nF a8) tv)))))))
   obtain rfl := os h
   exact rj hc K9i ([oN,oN,oN,eL (I a4)]++nN 4 ([oc (.bool a6),oN,oN]++n_ 10 [oT])) (ai (ix a5) (cq (Kaa _ _ a7) K3p (ar 10 (neF (nT a8)) (ai (nT a8) tv))))
  clear a3
  refine ic h (fun b4 h => ?_) fun b4 h => ?_
  ·obtain rfl := os h
   exact rs0 hc 1 [(2,.bool false)] [] (rt (re [true]))
  exact sk (ri0 hc 3 (Qdn (spec_l1Tables_l0_ih _ _ h c hc)))
 obtain rfl := os h
 exact xt 0 (Qdh (Qdo (iv [])))
def Kba (s0 : K00) : Option (Bool) :=
 ((
 (Ka8 (s0.fSize,2,16)) >>= fun a0 =>
 if a0 = true then
  if ((s0.fPlus.length : Int) != (wr (s0.fSize * s0.fSize))) = true then
  some (true)
  else
  if ((s0.fTimes.length : Int) != (wr (s0.fSize * s0.fSize))) = true then
  some (true)
  else
  some (((s0.fBelow.length : Int) != (wr (s0.fSize * s0.fSize))))
 else
  some (true)
 ) : Option (Bool)) >>= fun a1 =>
 if a1 = true then
 some false
 else
 (Kb7 (s0,0)) >>= fun fl => match fl with
 | .inl () =>
  some true
 | .inr r =>
  some r
def Kbb (s0 : K00) (r : Bool) : Prop :=
 Q77 Tryz.prog 163 [K1w s0] (.bool r) []
theorem Kbc : ∀ p r,Kba p = some r → Kbb p r := by
 rintro s0 r h
 unfold Kba at h
 refine b0 Tryz.f163 K3z 70 [(0,K1w s0)] fun c hc => (rs hc none [nW 1,oN] [(1,.ra 1 0)] [(1,K1v s0)] tv (sN (sN ?_)))
 obtain ⟨a0,a1,h⟩ := Qe5 h
 refine wi [] [(40,.bool a0)] ?_ ?_
 ·replace h := a1
  obtain ⟨a2,a3,h⟩ := Qe5 h
  rcases is h with ⟨a4,h⟩ | ⟨a4,h⟩
  ·rcases is h with ⟨a5,h⟩ | ⟨a5,h⟩
   ·obtain rfl := os h
    exact rj hc none ([oN,oN,oc (.bool a2)]++nN 4 ([nQ ⟨[(11,I (s0.fPlus.length : Int))],[],[]⟩]++nN 6 ([oF,oN]++n_ 9 ([oT,oN]++n_ 9 [oT])))) (cq (Kaa _ _ a3) K3p (ar 3 (nF a4) (ai (Qeb (d := 11) I s0.fPlus) (ar 7 (nF a4) (ar 9 (neF a5) (ai a5 (ar 9 nf (ai tt tv))))))))
   rcases is h with ⟨a6,h⟩ | ⟨a6,h⟩
   ·obtain rfl := os h
    exact rj hc none ([oN,oN,oc (.bool a2)]++nN 4 ([nQ ⟨[(11,I (s0.fPlus.length : Int))],[],[]⟩]++nN 6 ([oF,oN,oN,oN,nQ ⟨[(22,I (s0.fTimes.length : Int))],[],[]⟩]++nN 6 ([oF,oN]++n_ 9 [oT])))) (cq (Kaa _ _ a3) K3p (ar 3 (nF a4) (ai (Qeb (d := 11) I s0.fPlus) (ar 7 (nF a4) (ar 3 a5 (ai (Qeb (d := 22) I s0.fTimes) (ar 7 a5 (ar 9 (neF a6) (ai a6 tv)))))))))
   obtain rfl := os h
   exact rj hc none ([oN,oN,oc (.bool a2)]++nN 4 ([nQ ⟨[(11,I (s0.fPlus.length : Int))],[],[]⟩]++nN 6 ([oF,oN,oN,oN,nQ ⟨[(22,I (s0.fTimes.length : Int))],[],[]⟩]++nN 6 ([oF,oN,oN,oN,nQ ⟨[(33,I (s0.fBelow.length : Int))],[],[]⟩]++nN 6 [oF])))) (cq (Kaa _ _ a3) K3p (ar 3 (nF a4) (ai (Qeb (d := 11) I s0.fPlus) (ar 7 (nF a4) (ar 3 a5 (ai (Qeb (d := 22) I s0.fTimes) (ar 7 a5 (ar 3 a6 (ai (Qeb (d := 33) AV.bool s0.fBelow) (ar 7 a6 tv))))))))))
  obtain rfl := os h
  exact rj hc none ([oN,oN,oc (.bool a2),oN,oN]++n_ 9 ([oT,oN]++n_ 9 ([oT,oN]++n_ 9 [oT]))) (cq (Kaa _ _ a3) K3p (ar 9 (neF (nT a4)) (ai (nT a4) (ar 9 nf (ai tt (ar 9 nf (ai tt tv)))))))
 clear a1
 refine ic h (fun a7 h => ?_) fun a7 h => ?_
 ·obtain rfl := os h
  exact rs0 hc 1 [(2,.bool false)] [] (rt (rq [true]))
 refine sk (sN (K9e hc 1 [(1,.ra 1 0),(3,I 0)] (bk 0 ?_)))
 obtain ⟨fl,a8,h⟩ := Qe5 h
 have hL := Kb9 _ _ a8 c hc
 refine lp ?_
 rcases fl with ⟨⟩ | r
 ·refine wl hL ?_
  obtain rfl := os h
  exact Qdj (rs0 hc 1 [(2,.bool true)] [] (rt (rq [true])))
 refine WpL.mono hL ?_
 rintro _ _ ⟨rfl,hfin⟩
 obtain rfl := os h
 exact ⟨.inl rfl,hfin⟩
def Kbd : Option (List (List Nat)) := rh [0,0,0,3,0,0,0,7,8,9,10,10,12,13,14,14,14,17,18,19,20,21,21,21,24,25,26,27,28,29,29,29,32,33,34,35]
def Kbe : Option (List (List Nat)) := rx [[0],[0],[0],[0],[0,1,2,3],[0],[6],[0],[0],[0],[0],[0],[7,9,10,11],[13],[14],[15],[16],[16],[16],[16],[16,17,18,19],[16],[22],[16],[16],[16],[16],[16],[23,25,26,27],[29],[30],[31]]
def Kbf : Option (List (List Nat)) := rx [[0],[0],[0],[0],[0],[0,2,3,4],[6],[0],[0],[0],[0],[7,8,9,10],[0],[0],[0],[7,8,9,10,11,12,13,14],[16],[17],[18],[19],[19],[19],[19],[19,20,21,22],[19],[25],[19],[19],[19],[19],[26,27,28,29],[19],[19],[19],[26,27,28,29,30,31,32,33],[35],[36],[37]]
def Kbg : Option (List (List Nat)) := rx [[0],[0],[0],[0],[0,1,2,3],[0],[0],[0],[0,1,2,3,4,5,6,7],[9],[10],[11],[11],[11],[11],[11,12,13,14],[11],[11],[11],[11,12,13,14,15,16,17,18],[20],[21],[22],[23],[23],[23],[23],[23,24,25,26],[23],[23],[23],[23,24,25,26,27,28,29,30],[32],[33],[34]]
def Kbh (p : K00 × Int × Int) : Option (Int) :=
 match p with
 | (s0,a1,b2) =>
  (idx s0.fPlus (wr ((wr (a1 * s0.fSize)) + b2))) >>= fun a0 =>
  some a0
def Kbi (p : K00 × Int × Int) (r : Int) : Prop :=
 match p with
 | (s0,a1,b2) => Q77 Tryz.prog 211 [K1w s0,I a1,I b2] (I r) []
theorem Kbj : ∀ p r,Kbh p = some r → Kbi p r := by
 rintro ⟨s0,a1,b2⟩ r h
 unfold Kbh at h
 refine b0 Tryz.f211 K41 17 [(0,K1w s0),(1,I a1),(2,I b2)] fun c hc => (rsd hc none [nW 1,oN] [0] [(3,.ra 1 0)] [(1,K1v s0)] tv ?_)
 obtain ⟨a0,a2,h⟩ := Qe5 h
 obtain rfl := os h
 exact rs hc none (nN 8 [eL (I a0),oN,oN]) [(6,I a0)] [] (ai (ix a2) tv) (rt (rq [true]))
def Kbk (p : K00 × Int × Int) : Option (Int) :=
 match p with
 | (s0,a1,b2) =>
  (idx s0.fTimes (wr ((wr (a1 * s0.fSize)) + b2))) >>= fun a0 =>
  some a0
def Kbl (p : K00 × Int × Int) (r : Int) : Prop :=
 match p with
 | (s0,a1,b2) => Q77 Tryz.prog 212 [K1w s0,I a1,I b2] (I r) []
theorem Kbm : ∀ p r,Kbk p = some r → Kbl p r := by
 rintro ⟨s0,a1,b2⟩ r h
 unfold Kbk at h
 refine b0 Tryz.f212 K43 17 [(0,K1w s0),(1,I a1),(2,I b2)] fun c hc => (rsd hc none [nW 1,oN] [0] [(3,.ra 1 0)] [(1,K1v s0)] tv ?_)
 obtain ⟨a0,a2,h⟩ := Qe5 h
 obtain rfl := os h
 exact rs hc none (nN 8 [eL (I a0),oN,oN]) [(6,I a0)] [] (ai (ix a2) tv) (rt (rq [true]))
def Kbn (p : K00 × Int × Int) : Option (Bool) :=
 match p with
 | (s0,a1,b2) =>
  (idx s0.fBelow (wr ((wr (a1 * s0.fSize)) + b2))) >>= fun a0 =>
  some a0
def Kbo (p : K00 × Int × Int) (r : Bool) : Prop :=
 match p with
 | (s0,a1,b2) => Q77 Tryz.prog 202 [K1w s0,I a1,I b2] (.bool r) []
theorem Kbp : ∀ p r,Kbn p = some r → Kbo p r := by
 rintro ⟨s0,a1,b2⟩ r h
 unfold Kbn at h
 refine b0 Tryz.f202 K45 17 [(0,K1w s0),(1,I a1),(2,I b2)] fun c hc => (rsd hc none [nW 1,oN] [0] [(3,.ra 1 0)] [(1,K1v s0)] tv ?_)
 obtain ⟨a0,a2,h⟩ := Qe5 h
 obtain rfl := os h
 exact rs hc none (nN 8 [eB a0,oN,oN]) [(6,.bool a0)] [] (ai (xB a2) tv) (rt (rq [true]))
def Kbq (p : K00 × Int) : Option (Bool) :=
 match p with
 | (s0,a1) =>
  ((
  (Kbh (s0,0,a1)) >>= fun a0 =>
  if (a0 == a1) = true then
  (Kbk (s0,1,a1)) >>= fun a2 =>
  if (a2 == a1) = true then
  (Kbk (s0,a1,1)) >>= fun a3 =>
  if (a3 == a1) = true then
  (Kbk (s0,0,a1)) >>= fun a4 =>
  if (a4 == 0) = true then
  (Kbk (s0,a1,0)) >>= fun a5 =>
  if (a5 == 0) = true then
  (Kbn (s0,a1,a1)) >>= fun a6 =>
  some (a6)
  else
  some (false)
  else
  some (false)
  else
  some (false)
  else
  some (false)
  else
  some (false)
  ) : Option (Bool)) >>= fun a7 =>
  some a7
def Kbr (p : K00 × Int) (r : Bool) : Prop :=
 match p with
 | (s0,a1) => Q77 Tryz.prog 164 [K1w s0,I a1] (.bool r) []
theorem Kbs : ∀ p r,Kbq p = some r → Kbr p r := by
 rintro ⟨s0,a1⟩ r h
 unfold Kbq at h
 refine b0 Tryz.f164 K47 42 [(0,K1w s0),(1,I a1)] fun c hc => (rsd hc none [nW 1,oN] [0] [(2,.ra 1 0)] [(1,K1v s0)] tv (sN ?_))
 obtain ⟨a0,a2,h⟩ := Qe5 h
 refine Wp.into (x := .normal) (mkS [(4,.bool a0)] []) ?_ ?_
 ·replace h := a2
  obtain ⟨a3,a4,h⟩ := Qe5 h
  rcases is h with ⟨a5,h⟩ | ⟨a5,h⟩
  ·obtain ⟨a6,a7,h⟩ := Qe5 h
   rcases is h with ⟨a8,h⟩ | ⟨a8,h⟩
   ·obtain ⟨a9,b1,h⟩ := Qe5 h
    rcases is h with ⟨b2,h⟩ | ⟨b2,h⟩
    ·obtain ⟨b3,b4,h⟩ := Qe5 h
     rcases is h with ⟨b5,h⟩ | ⟨b5,h⟩
     ·obtain ⟨b6,b7,h⟩ := Qe5 h
      rcases is h with ⟨b8,h⟩ | ⟨b8,h⟩
      ·obtain ⟨b9,c0,h⟩ := Qe5 h
       obtain rfl := os h
       exact rj hc none ([oN,oN,oc (I a3)]++nN 5 ([oc (I a6),oN,oN,oT,oN,oN,oN,oc (I a9),oN,oN,oT,oN,oN,oN,oc (I b3),oN,oT,oN,oN,oN,oc (I b6),oN,oT]++nN 4 [oc (.bool b9),oT,oN])) (cq (Kbj _ _ a4) K42 (ar 3 a5 (cq (Kbm _ _ a7) K44 (ar 3 a5 (ar 3 a8 (cq (Kbm _ _ b1) K44 (ar 3 a8 (ar 3 b2 (cq (Kbm _ _ b4) K44 (ar 2 b2 (ar 3 b5 (cq (Kbm _ _ b7) K44 (ar 2 b5 (ar 4 b8 (cq (Kbp _ _ c0) K46 (ai b8 tv))))))))))))))))
      obtain rfl := os h
      exact rj hc none ([oN,oN,oc (I a3)]++nN 5 ([oc (I a6),oN,oN,oT,oN,oN,oN,oc (I a9),oN,oN,oT,oN,oN,oN,oc (I b3),oN,oT,oN,oN,oN,oc (I b6),oN,oT,oN]++n_ 4 [oF,oN])) (cq (Kbj _ _ a4) K42 (ar 3 a5 (cq (Kbm _ _ a7) K44 (ar 3 a5 (ar 3 a8 (cq (Kbm _ _ b1) K44 (ar 3 a8 (ar 3 b2 (cq (Kbm _ _ b4) K44 (ar 2 b2 (ar 3 b5 (cq (Kbm _ _ b7) K44 (ar 2 b5 (ar 4 (neT b8) (ai b8 tv)))))))))))))))
     obtain rfl := os h
     exact rj hc none ([oN,oN,oc (I a3)]++nN 5 ([oc (I a6),oN,oN,oT,oN,oN,oN,oc (I a9),oN,oN,oT,oN,oN,oN,oc (I b3),oN,oT,oN]++n_ 4 ([oF,oN]++n_ 4 [oF,oN]))) (cq (Kbj _ _ a4) K42 (ar 3 a5 (cq (Kbm _ _ a7) K44 (ar 3 a5 (ar 3 a8 (cq (Kbm _ _ b1) K44 (ar 3 a8 (ar 3 b2 (cq (Kbm _ _ b4) K44 (ar 2 b2 (ar 4 (neT b5) (ai b5 (ar 4 (neT fF) (ai fF tv))))))))))))))
    obtain rfl := os h
    exact rj hc none ([oN,oN,oc (I a3)]++nN 5 ([oc (I a6),oN,oN,oT,oN,oN,oN,oc (I a9),oN,oN,oT,oN]++n_ 4 ([oF,oN]++n_ 4 ([oF,oN]++n_ 4 [oF,oN])))) (cq (Kbj _ _ a4) K42 (ar 3 a5 (cq (Kbm _ _ a7) K44 (ar 3 a5 (ar 3 a8 (cq (Kbm _ _ b1) K44 (ar 3 a8 (ar 4 (neT b2) (ai b2 (ar 4 (neT fF) (ai fF (ar 4 (neT fF) (ai fF tv)))))))))))))
   obtain rfl := os h
   exact rj hc none ([oN,oN,oc (I a3)]++nN 5 ([oc (I a6),oN,oN,oT,oN]++n_ 5 ([oF,oN]++n_ 4 ([oF,oN]++n_ 4 ([oF,oN]++n_ 4 [oF,oN]))))) (cq (Kbj _ _ a4) K42 (ar 3 a5 (cq (Kbm _ _ a7) K44 (ar 3 a5 (ar 5 (neT a8) (ai a8 (ar 4 (neT fF) (ai fF (ar 4 (neT fF) (ai fF (ar 4 (neT fF) (ai fF tv))))))))))))
  obtain rfl := os h
  exact rj hc none ([oN,oN,oc (I a3),oN,oN,oN]++n_ 5 ([oF,oN]++n_ 5 ([oF,oN]++n_ 4 ([oF,oN]++n_ 4 ([oF,oN]++n_ 4 [oF,oN]))))) (cq (Kbj _ _ a4) K42 (ar 5 (neT a5) (ai a5 (ar 5 (neT fF) (ai fF (ar 4 (neT fF) (ai fF (ar 4 (neT fF) (ai fF (ar 4 (neT fF) (ai fF tv)))))))))))
 clear a2
 obtain rfl := os h
 exact rt (rq [true])
def Kbt (c : Ctx) (s0 : K00) (a1 : Int) (b2 : Int) (a0 : Int) : Bool → Exit → Q0a → Prop
 | a2 => Qdr c (.exit 2) (mkS [(1,I a1),(2,I b2),(3,.ra 1 0),(7,I a0),(8,.bool a2)] [(1,K1v s0)])
def Kbu (p : K00 × Int × Int × Int × Bool × Int) : Option (Bool) :=
 match p with
 | (s0,a1,b2,a0,a2,a3) =>
  ((
  if (decide (a3 < s0.fSize)) = true then
  some (a2)
  else
  some (false)
  ) : Option (Bool)) >>= fun a4 =>
  if a4 = true then
  ((
  (Kbn (s0,a1,a3)) >>= fun a5 =>
  if a5 = true then
  (Kbn (s0,b2,a3)) >>= fun a6 =>
  if a6 = true then
  (Kbn (s0,a0,a3)) >>= fun a7 =>
  some (a7)
  else
  some (true)
  else
  some (true)
  ) : Option (Bool)) >>= fun a8 =>
  Kbu (s0,a1,b2,a0,a8,(wr (a3 + 1)))
  else
  some (a2)
 partial_fixpoint
def Kbv (p : K00 × Int × Int × Int × Bool × Int) (fl : Bool) : Prop :=
 match p with
 | (s0,a1,b2,a0,a2,a3) => ∀ c : Ctx,c.nt = 55 → WpL Tryz.prog c (cl (cl (cr (cl (cr (cl (cl (cr (cl (cl (cr (cl (cr K49))))))))))))) (Kbt c s0 a1 b2 a0 fl) (mkS [(1,I a1),(2,I b2),(3,.ra 1 0),(7,I a0),(8,.bool a2),(9,I a3)] [(1,K1v s0)])
theorem Kbw : ∀ p r,Kbu p = some r → Kbv p r := by
 refine Kbu.partial_correctness Kbv ?_
 rintro spec_l1Join_l0_f spec_l1Join_l0_ih ⟨s0,a1,b2,a0,a2,a3⟩ r h
 intro c hc
 refine WpL.step (sN (sN ?_))
 obtain ⟨a4,a5,h⟩ := Qe5 h
 refine wi [] [(32,.bool a4)] ?_ ?_
 ·replace h := a5
  rcases is h with ⟨a6,h⟩ | ⟨a6,h⟩
  ·obtain rfl := os h
   exact rj hc none (nN 6 [oT]) (ar 2 a6 tv)
  obtain rfl := os h
  exact rj hc none (nN 5 [o_,oF]) (ab (neT a6) a6 tv)
 clear a5
 refine ic h (fun a7 h => ?_) fun a7 h => ?_
 ·refine sk (sN (bk 3 ?_))
  obtain ⟨a8,a9,h⟩ := Qe5 h
  refine wi [32,8] [(8,.bool a8)] ?_ ?_
  ·replace h := a9
   obtain ⟨b1,b3,h⟩ := Qe5 h
   rcases is h with ⟨b4,h⟩ | ⟨b4,h⟩
   ·obtain ⟨b5,b6,h⟩ := Qe5 h
    rcases is h with ⟨b7,h⟩ | ⟨b7,h⟩
    ·obtain ⟨b8,b9,h⟩ := Qe5 h
     obtain rfl := os h
     exact rj hc none ([oN,oN,oN,oc (.bool b1)]++nN 5 ([oc (.bool b5),oN,oF]++nN 4 [oc (.bool b8),oF,oN])) (cq (Kbp _ _ b3) K46 (ar 4 (nF b4) (cq (Kbp _ _ b6) K46 (ar 2 (nF b4) (ar 4 (nF b7) (cq (Kbp _ _ b9) K46 (ai (nF b7) tv)))))))
    obtain rfl := os h
    exact rj hc none ([oN,oN,oN,oc (.bool b1)]++nN 5 ([oc (.bool b5),oN,oF,oN]++n_ 4 [oT,oN])) (cq (Kbp _ _ b3) K46 (ar 4 (nF b4) (cq (Kbp _ _ b6) K46 (ar 2 (nF b4) (ar 4 (neF (nT b7)) (ai (nT b7) tv))))))
   obtain rfl := os h
   exact rj hc none ([oN,oN,oN,oc (.bool b1),oN,oN]++n_ 5 ([oT,oN]++n_ 4 [oT,oN])) (cq (Kbp _ _ b3) K46 (ar 5 (neF (nT b4)) (ai (nT b4) (ar 4 nf (ai tt tv)))))
  clear a9
  exact ri0 hc 3 (Qdn (spec_l1Join_l0_ih _ _ h c hc))
 obtain rfl := os h
 exact xt 2 (Qdh (Qdo (iv [])))
def Kbx (c : Ctx) : (Unit) ⊕ (Int) → Exit → Q0a → Prop
 | .inl _ => Qdr c (.exit 0) (mkS [] [])
 | .inr r => Qe0 TIx Tryz.f214 [] (I r)
def Kby (p : K00 × Int × Int × Int) : Option ((Unit) ⊕ (Int)) :=
 match p with
 | (s0,a1,b2,a0) =>
  if (decide (a0 < s0.fSize)) = true then
  ((
  (Kbn (s0,a1,a0)) >>= fun a2 =>
  if a2 = true then
  (Kbn (s0,b2,a0)) >>= fun a3 =>
  some (a3)
  else
  some (false)
  ) : Option (Bool)) >>= fun a4 =>
  (Kbu (s0,a1,b2,a0,a4,0)) >>= fun a5 =>
  if a5 = true then
  some (.inr a0)
  else
  Kby (s0,a1,b2,(wr (a0 + 1)))
  else
  some (.inl ())
 partial_fixpoint
def Kbz (p : K00 × Int × Int × Int) (fl : (Unit) ⊕ (Int)) : Prop :=
 match p with
 | (s0,a1,b2,a0) => ∀ c : Ctx,c.nt = 55 → WpL Tryz.prog c (cl (cl (cr (cl (cr K49))))) (Kbx c fl) (mkS [(1,I a1),(2,I b2),(3,.ra 1 0),(7,I a0)] [(1,K1v s0)])
theorem Kc0 : ∀ p r,Kby p = some r → Kbz p r := by
 refine Kby.partial_correctness Kbz ?_
 rintro spec_l1Join_l1_f spec_l1Join_l1_ih ⟨s0,a1,b2,a0⟩ r h
 intro c hc
 refine WpL.step (sN (K9h hc 4 [] [(13,.bool (decide (a0 < s0.fSize)))] (ic h (fun a2 h => ?_) fun a2 h => ?_)))
 ·refine sk (sN (bk 1 (sN ?_)))
  obtain ⟨a3,a4,h⟩ := Qe5 h
  refine wi [13] [(8,.bool a3)] ?_ ?_
  ·replace h := a4
   obtain ⟨a5,a6,h⟩ := Qe5 h
   rcases is h with ⟨a7,h⟩ | ⟨a7,h⟩
   ·obtain ⟨a8,a9,h⟩ := Qe5 h
    obtain rfl := os h
    exact rj hc none ([oN,oN,oN,oc (.bool a5)]++nN 4 [oc (.bool a8),oT,oN]) (cq (Kbp _ _ a6) K46 (ar 4 a7 (cq (Kbp _ _ a9) K46 (ai a7 tv))))
   obtain rfl := os h
   exact rj hc none ([oN,oN,oN,oc (.bool a5),oN]++n_ 4 [oF,oN]) (cq (Kbp _ _ a6) K46 (ar 4 (neT a7) (ai a7 tv)))
  clear a4
  refine sN (K9e hc 1 [(1,I a1),(2,I b2),(3,.ra 1 0),(7,I a0),(8,.bool a3),(9,I 0)] (bk 2 ?_))
  obtain ⟨b1,b3,h⟩ := Qe5 h
  have hL := Kbw _ _ b3 c hc
  refine lp (wl hL (Qdj (K9h hc 1 [8] [(53,.bool b1)] (ic h (fun b4 h => ?_) fun b4 h => ?_))))
  ·obtain rfl := os h
   exact rs0 hc 2 [(6,I a0)] [] (rt (re [true]))
  exact sk (ri0 hc 3 (Qdn (spec_l1Join_l1_ih _ _ h c hc)))
 obtain rfl := os h
 exact xt 0 (Qdh (Qdo (iv [])))
def Kc1 (p : K00 × Int × Int) : Option (Int) :=
 match p with
 | (s0,a1,b2) =>
  (Kby (s0,a1,b2,0)) >>= fun fl => match fl with
  | .inl () =>
   some (-1)
  | .inr r =>
   some r
def Kc2 (p : K00 × Int × Int) (r : Int) : Prop :=
 match p with
 | (s0,a1,b2) => Q77 Tryz.prog 214 [K1w s0,I a1,I b2] (I r) []
theorem Kc3 : ∀ p r,Kc1 p = some r → Kc2 p r := by
 rintro ⟨s0,a1,b2⟩ r h
 unfold Kc1 at h
 refine b0 Tryz.f214 K49 55 [(0,K1w s0),(1,I a1),(2,I b2)] fun c hc => (rsd hc none [nW 1,oN] [0] [(3,.ra 1 0)] [(1,K1v s0)] tv (sN (K9e hc 1 [(1,I a1),(2,I b2),(3,.ra 1 0),(7,I 0)] (bk 0 ?_))))
 obtain ⟨fl,a0,h⟩ := Qe5 h
 have hL := Kc0 _ _ a0 c hc
 refine lp ?_
 rcases fl with ⟨⟩ | r
 ·refine wl hL ?_
  obtain rfl := os h
  exact Qdj (rs0 hc 1 [(6,I (-1))] [] (rt (rq [true])))
 refine WpL.mono hL ?_
 rintro _ _ ⟨rfl,hfin⟩
 obtain rfl := os h
 exact ⟨.inl rfl,hfin⟩
def Kc4 (p : K00 × Int × Int) : Option (Bool) :=
 match p with
 | (s0,a1,b2) =>
  ((
  (Kbh (s0,a1,b2)) >>= fun a0 =>
  (Kbh (s0,b2,a1)) >>= fun a2 =>
  if (a0 == a2) = true then
  if (a1 == b2) = true then
  (Kc1 (s0,a1,b2)) >>= fun a3 =>
  some ((decide (a3 ≥ 0)))
  else
  (Kbn (s0,a1,b2)) >>= fun a4 =>
  if a4 = true then
  (Kbn (s0,b2,a1)) >>= fun a5 =>
  if a5 = true then
  some (false)
  else
  (Kc1 (s0,a1,b2)) >>= fun a3 =>
  some ((decide (a3 ≥ 0)))
  else
  (Kc1 (s0,a1,b2)) >>= fun a3 =>
  some ((decide (a3 ≥ 0)))
  else
  some (false)
  ) : Option (Bool)) >>= fun a6 =>
  some a6
def Kc5 (p : K00 × Int × Int) (r : Bool) : Prop :=
 match p with
 | (s0,a1,b2) => Q77 Tryz.prog 165 [K1w s0,I a1,I b2] (.bool r) []
theorem Kc6 : ∀ p r,Kc4 p = some r → Kc5 p r := by
 rintro ⟨s0,a1,b2⟩ r h
 unfold Kc4 at h
 refine b0 Tryz.f165 K4b 42 [(0,K1w s0),(1,I a1),(2,I b2)] fun c hc => (rsd hc none [nW 1,oN] [0] [(3,.ra 1 0)] [(1,K1v s0)] tv (sN ?_))
 obtain ⟨a0,a2,h⟩ := Qe5 h
 refine Wp.into (x := .normal) (mkS [(6,.bool a0)] []) ?_ ?_
 ·replace h := a2
  obtain ⟨a3,a4,a5,a6,h⟩ := bq2 h
  rcases is h with ⟨a7,h⟩ | ⟨a7,h⟩
  ·rcases is h with ⟨a8,h⟩ | ⟨a8,h⟩
   ·obtain ⟨a9,b1,h⟩ := Qe5 h
    obtain rfl := os h
    exact rj hc Kbd ([oN,oN,oN,oc (I a3),oN,oN,oN,oc (I a5)]++nN 6 (n_ 5 ([oT,oN]++n_ 5 ([oT,oT]++nN 4 [oc (I a9),oN,oT,oN])))) (cq (Kbj _ _ a4) K42 (cq (Kbj _ _ a6) K42 (ar 4 a7 (ar 5 (neF a8) (ac a7 a8 a7 (ar 5 nf (ac a7 tt a7 (ar 4 tt (cq (Kc3 _ _ b1) K4a (ar 2 tt tv))))))))))
   obtain ⟨b3,b4,h⟩ := Qe5 h
   rcases is h with ⟨b5,h⟩ | ⟨b5,h⟩
   ·obtain ⟨b6,b7,h⟩ := Qe5 h
    rcases is h with ⟨b8,h⟩ | ⟨b8,h⟩
    ·obtain rfl := os h
     exact rj hc Kbd ([oN,oN,oN,oc (I a3),oN,oN,oN,oc (I a5)]++nN 9 ([oc (.bool b3),oN,oF]++nN 4 ([oc (.bool b6),oN,oF,oT,oN]++n_ 5 [oF,oN]))) (cq (Kbj _ _ a4) K42 (cq (Kbj _ _ a6) K42 (ar 4 a7 (ar 4 a8 (cq (Kbp _ _ b4) K46 (ad a8 a7 a8 a7 (ar 4 (nF b5) (cq (Kbp _ _ b7) K46 (ad (nF b5) a7 (nF b5) a7 (ar 5 (neT (nF b8)) (ai (nF b8) tv)))))))))))
    obtain ⟨a9,b1,h⟩ := Qe5 h
    obtain rfl := os h
    exact rj hc Kbd ([oN,oN,oN,oc (I a3),oN,oN,oN,oc (I a5)]++nN 9 ([oc (.bool b3),oN,oF]++nN 4 ([oc (.bool b6),oN,oF,oT]++nN 4 [oc (I a9),oN,oT,oN]))) (cq (Kbj _ _ a4) K42 (cq (Kbj _ _ a6) K42 (ar 4 a7 (ar 4 a8 (cq (Kbp _ _ b4) K46 (ad a8 a7 a8 a7 (ar 4 (nF b5) (cq (Kbp _ _ b7) K46 (ad (nF b5) a7 (nF b5) a7 (ar 4 (nT b8) (cq (Kc3 _ _ b1) K4a (ar 2 (nT b8) tv))))))))))))
   obtain ⟨a9,b1,h⟩ := Qe5 h
   obtain rfl := os h
   exact rj hc Kbd ([oN,oN,oN,oc (I a3),oN,oN,oN,oc (I a5)]++nN 9 ([oc (.bool b3),oN,oF,oN]++n_ 5 ([oT,oT]++nN 4 [oc (I a9),oN,oT,oN]))) (cq (Kbj _ _ a4) K42 (cq (Kbj _ _ a6) K42 (ar 4 a7 (ar 4 a8 (cq (Kbp _ _ b4) K46 (ad a8 a7 a8 a7 (ar 5 (neF (nT b5)) (ac a7 (nT b5) a7 (ar 4 tt (cq (Kc3 _ _ b1) K4a (ar 2 tt tv)))))))))))
  obtain rfl := os h
  exact rj hc Kbd ([oN,oN,oN,oc (I a3),oN,oN,oN,oc (I a5),oN,oN]++n_ 17 ([oF,oN]++n_ 5 [oF,oN])) (cq (Kbj _ _ a4) K42 (cq (Kbj _ _ a6) K42 (ar 7 (neT a7) (ai a7 (ar 5 (neT fF) (ai fF tv))))))
 clear a2
 obtain rfl := os h
 exact rt (rq [true])
def Kc7 (p : K00 × Int × Int × Int) : Option (Bool) :=
 match p with
 | (s0,a1,b2,c3) =>
  ((
  (Kbh (s0,a1,b2)) >>= fun a0 =>
  (Kbh (s0,a0,c3)) >>= fun a2 =>
  (Kbh (s0,b2,c3)) >>= fun a3 =>
  (Kbh (s0,a1,a3)) >>= fun a4 =>
  if (a2 != a4) = true then
  some (true)
  else
  (Kbk (s0,a1,b2)) >>= fun a5 =>
  (Kbk (s0,a5,c3)) >>= fun a6 =>
  (Kbk (s0,b2,c3)) >>= fun a7 =>
  (Kbk (s0,a1,a7)) >>= fun a8 =>
  some ((a6 != a8))
  ) : Option (Bool)) >>= fun a9 =>
  if a9 = true then
  some false
  else
  ((
  (Kbh (s0,b2,c3)) >>= fun b1 =>
  (Kbk (s0,a1,b1)) >>= fun b3 =>
  (Kbk (s0,a1,b2)) >>= fun b4 =>
  (Kbk (s0,a1,c3)) >>= fun b5 =>
  (Kbh (s0,b4,b5)) >>= fun b6 =>
  if (b3 != b6) = true then
  some (true)
  else
  (Kbh (s0,a1,b2)) >>= fun b7 =>
  (Kbk (s0,b7,c3)) >>= fun b8 =>
  (Kbk (s0,a1,c3)) >>= fun b9 =>
  (Kbk (s0,b2,c3)) >>= fun c0 =>
  (Kbh (s0,b9,c0)) >>= fun c1 =>
  some ((b8 != c1))
  ) : Option (Bool)) >>= fun c2 =>
  if c2 = true then
  some false
  else
  (Kbn (s0,a1,b2)) >>= fun c4 =>
  if c4 = true then
  ((
  (Kbn (s0,b2,c3)) >>= fun c5 =>
  if c5 = true then
  (Kbn (s0,a1,c3)) >>= fun c6 =>
  some ((!c6))
  else
  some (false)
  ) : Option (Bool)) >>= fun c7 =>
  if c7 = true then
  some false
  else
  ((
  (Kbh (s0,a1,c3)) >>= fun c8 =>
  (Kbh (s0,b2,c3)) >>= fun c9 =>
  (Kbn (s0,c8,c9)) >>= fun d0 =>
  if d0 = true then
  (Kbk (s0,a1,c3)) >>= fun d1 =>
  (Kbk (s0,b2,c3)) >>= fun d2 =>
  (Kbn (s0,d1,d2)) >>= fun d3 =>
  if d3 = true then
  (Kbk (s0,c3,a1)) >>= fun d4 =>
  (Kbk (s0,c3,b2)) >>= fun d5 =>
  (Kbn (s0,d4,d5)) >>= fun d6 =>
  some (d6)
  else
  some (false)
  else
  some (false)
  ) : Option (Bool)) >>= fun d7 =>
  some d7
  else
  some true
def Kc8 (p : K00 × Int × Int × Int) (r : Bool) : Prop :=
 match p with
 | (s0,a1,b2,c3) => Q77 Tryz.prog 166 [K1w s0,I a1,I b2,I c3] (.bool r) []
theorem Kc9 : ∀ p r,Kc7 p = some r → Kc8 p r := by
 rintro ⟨s0,a1,b2,c3⟩ r h
 unfold Kc7 at h
 refine b0 Tryz.f166 K4d 129 [(0,K1w s0),(1,I a1),(2,I b2),(3,I c3)] fun c hc => (rsd hc none [nW 1,oN] [0] [(4,.ra 1 0)] [(1,K1v s0)] tv (sN (sN ?_)))
 obtain ⟨a0,a2,h⟩ := Qe5 h
 refine wi [] [(40,.bool a0)] ?_ ?_
 ·replace h := a2
  obtain ⟨a3,a4,a5,a6,a7,a8,a9,b1,h⟩ := bq4 h
  rcases is h with ⟨b3,h⟩ | ⟨b3,h⟩
  ·obtain rfl := os h
   exact rj hc Kbe (nN 4 ([oc (I a3),oN,oc (I a5)]++nN 5 ([oc (I a7),oc (I a9),oN,oN]++n_ 15 [oT]))) (cq (Kbj _ _ a4) K42 (cq (Kbj _ _ a6) K42 (cq (Kbj _ _ a8) K42 (cq (Kbj _ _ b1) K42 (ar 15 (neF b3) (ai b3 tv))))))
  obtain ⟨b4,b5,b6,b7,b8,b9,c0,c1,h⟩ := bq4 h
  obtain rfl := os h
  exact rj hc Kbe (nN 4 ([oc (I a3),oN,oc (I a5)]++nN 5 ([oc (I a7),oc (I a9)]++nN 6 ([oc (I b4),oN,oc (I b6)]++nN 5 [oc (I b8),oc (I c0),oN,oF])))) (cq (Kbj _ _ a4) K42 (cq (Kbj _ _ a6) K42 (cq (Kbj _ _ a8) K42 (cq (Kbj _ _ b1) K42 (ar 5 b3 (cq (Kbm _ _ b5) K44 (ar 2 b3 (cq (Kbm _ _ b7) K44 (ar 6 b3 (cq (Kbm _ _ b9) K44 (ai b3 (cq (Kbm _ _ c1) K44 (ar 2 b3 tv)))))))))))))
 clear a2
 refine ic h (fun c2 h => ?_) fun c2 h => ?_
 ·obtain rfl := os h
  exact rs0 hc 1 [(8,.bool false)] [] (rt (rq [true]))
 refine sk (sN (sN ?_))
 obtain ⟨c4,c5,h⟩ := Qe5 h
 refine wi [40] [(78,.bool c4)] ?_ ?_
 ·replace h := c5
  obtain ⟨c6,c7,c8,c9,d0,d1,d2,d3,h⟩ := bq4 h
  obtain ⟨d4,d5,h⟩ := Qe5 h
  rcases is h with ⟨d6,h⟩ | ⟨d6,h⟩
  ·obtain rfl := os h
   exact rj hc Kbf (nN 5 ([oc (I c6),oc (I c8)]++nN 4 ([oc (I d0),oN,oN,oN,oc (I d2),oc (I d4),oN,oN]++n_ 18 [oT]))) (cq (Kbj _ _ c7) K42 (cq (Kbm _ _ c9) K44 (cq (Kbm _ _ d1) K44 (cq (Kbm _ _ d3) K44 (cq (Kbj _ _ d5) K42 (ar 18 (neF d6) (ai d6 tv)))))))
  obtain ⟨d7,d8,d9,e0,e1,e2,e3,e4,h⟩ := bq4 h
  obtain ⟨e5,e6,h⟩ := Qe5 h
  obtain rfl := os h
  exact rj hc Kbf (nN 5 ([oc (I c6),oc (I c8)]++nN 4 ([oc (I d0),oN,oN,oN,oc (I d2),oc (I d4)]++nN 6 ([oc (I d7),oN,oc (I d9)]++nN 4 [oc (I e1),oN,oN,oN,oc (I e3),oc (I e5),oN,oF])))) (cq (Kbj _ _ c7) K42 (cq (Kbm _ _ c9) K44 (cq (Kbm _ _ d1) K44 (cq (Kbm _ _ d3) K44 (cq (Kbj _ _ d5) K42 (ar 5 d6 (cq (Kbj _ _ d8) K42 (ar 2 d6 (cq (Kbm _ _ e0) K44 (ar 5 d6 (cq (Kbm _ _ e2) K44 (ar 4 d6 (cq (Kbm _ _ e4) K44 (ai d6 (cq (Kbj _ _ e6) K42 (ar 2 d6 tv))))))))))))))))
 clear c5
 refine ic h (fun e7 h => ?_) fun e7 h => ?_
 ·obtain rfl := os h
  exact rs0 hc 1 [(8,.bool false)] [] (rt (rq [true]))
 refine sk (sN ?_)
 obtain ⟨e8,e9,h⟩ := Qe5 h
 refine K9g hc none [oN,oN,oN,oc (.bool e8),oN] [78] [(83,.bool (!e8))] (cq (Kbp _ _ e9) K46 tv) ?_
 rcases is h with ⟨f0,h⟩ | ⟨f0,h⟩
 ·refine cF (!e8) (nF f0) (sk (sN (sN ?_)))
  obtain ⟨f1,f2,h⟩ := Qe5 h
  refine wi [83] [(94,.bool f1)] ?_ ?_
  ·replace h := f2
   obtain ⟨f3,f4,h⟩ := Qe5 h
   rcases is h with ⟨f5,h⟩ | ⟨f5,h⟩
   ·obtain ⟨f6,f7,h⟩ := Qe5 h
    obtain rfl := os h
    exact rj hc none ([oN,oN,oN,oc (.bool f3)]++nN 4 [oc (.bool f6),oN,oT]) (cq (Kbp _ _ f4) K46 (ar 4 f5 (cq (Kbp _ _ f7) K46 (ar 2 f5 tv))))
   obtain rfl := os h
   exact rj hc none ([oN,oN,oN,oc (.bool f3),oN]++n_ 5 [oF]) (cq (Kbp _ _ f4) K46 (ar 5 (neT f5) (ai f5 tv)))
  clear f2
  refine ic h (fun f8 h => ?_) fun f8 h => ?_
  ·obtain rfl := os h
   exact rs0 hc 1 [(8,.bool false)] [] (rt (rq [true]))
  refine sk (sN ?_)
  obtain ⟨f9,g0,h⟩ := Qe5 h
  refine Wp.into (x := .normal) (mkS [(8,.bool f9)] []) ?_ ?_
  ·replace h := g0
   obtain ⟨g1,g2,g3,g4,g5,g6,h⟩ := bq3 h
   rcases is h with ⟨g7,h⟩ | ⟨g7,h⟩
   ·obtain ⟨g8,g9,i0,i1,i2,i3,h⟩ := bq3 h
    rcases is h with ⟨i4,h⟩ | ⟨i4,h⟩
    ·obtain ⟨i5,i6,i7,i8,i9,j0,h⟩ := bq3 h
     obtain rfl := os h
     exact rj hc Kbg (nN 4 ([oc (I g1),oN,oN,oN,oc (I g3),oc (.bool g5)]++nN 5 ([oc (I g8),oN,oN,oN,oc (I i0),oc (.bool i2),oT]++nN 5 [oc (I i5),oN,oN,oN,oc (I i7),oc (.bool i9),oT,oN]))) (cq (Kbj _ _ g2) K42 (cq (Kbj _ _ g4) K42 (cq (Kbp _ _ g6) K46 (ar 5 g7 (cq (Kbm _ _ g9) K44 (ar 4 g7 (cq (Kbm _ _ i1) K44 (ai g7 (cq (Kbp _ _ i3) K46 (ai g7 (ar 5 i4 (cq (Kbm _ _ i6) K44 (ar 4 i4 (cq (Kbm _ _ i8) K44 (ai i4 (cq (Kbp _ _ j0) K46 (ai i4 tv)))))))))))))))))
    obtain rfl := os h
    exact rj hc Kbg (nN 4 ([oc (I g1),oN,oN,oN,oc (I g3),oc (.bool g5)]++nN 5 ([oc (I g8),oN,oN,oN,oc (I i0),oc (.bool i2),oT,oN]++n_ 10 [oF,oN]))) (cq (Kbj _ _ g2) K42 (cq (Kbj _ _ g4) K42 (cq (Kbp _ _ g6) K46 (ar 5 g7 (cq (Kbm _ _ g9) K44 (ar 4 g7 (cq (Kbm _ _ i1) K44 (ai g7 (cq (Kbp _ _ i3) K46 (ai g7 (ar 10 (neT i4) (ai i4 tv))))))))))))
   obtain rfl := os h
   exact rj hc Kbg (nN 4 ([oc (I g1),oN,oN,oN,oc (I g3),oc (.bool g5),oN]++n_ 10 ([oF,oN]++n_ 10 [oF,oN]))) (cq (Kbj _ _ g2) K42 (cq (Kbj _ _ g4) K42 (cq (Kbp _ _ g6) K46 (ar 10 (neT g7) (ai g7 (ar 10 (neT fF) (ai fF tv)))))))
  clear g0
  obtain rfl := os h
  exact rt (rq [true])
 refine cT (!e8) (nT f0) ?_
 obtain rfl := os h
 exact rs0 hc 1 [(8,.bool true)] [] (rt (rq [true]))
def Kca (c : Ctx) (s0 : K00) (a0 : Int) (a1 : Int) : (Unit) ⊕ (Bool) → Exit → Q0a → Prop
 | .inl _ => Qdr c (.exit 4) (mkS [(1,.ra 1 0),(3,I a0),(4,I a1)] [(1,K1v s0)])
 | .inr r => Qe0 TIx Tryz.f80 [] (.bool r)
def Kcb (p : K00 × Int × Int × Int) : Option ((Unit) ⊕ (Bool)) :=
 match p with
 | (s0,a0,a1,a2) =>
  if (decide (a2 < s0.fSize)) = true then
  (Kc7 (s0,a0,a1,a2)) >>= fun a3 =>
  if a3 = true then
  Kcb (s0,a0,a1,(wr (a2 + 1)))
  else
  some (.inr false)
  else
  some (.inl ())
 partial_fixpoint
def Kcc (p : K00 × Int × Int × Int) (fl : (Unit) ⊕ (Bool)) : Prop :=
 match p with
 | (s0,a0,a1,a2) => ∀ c : Ctx,c.nt = 42 → WpL Tryz.prog c (cl (cl (cr (cr (cl (cl (cr (cl (cl (cr (cr (cl (cl (cr (cl (cl (cr (cl (cr (cr B80)))))))))))))))))))) (Kca c s0 a0 a1 fl) (mkS [(1,.ra 1 0),(3,I a0),(4,I a1),(5,I a2)] [(1,K1v s0)])
theorem Kcd : ∀ p r,Kcb p = some r → Kcc p r := by
 refine Kcb.partial_correctness Kcc ?_
 rintro spec_IsSystem_l0_f spec_IsSystem_l0_ih ⟨s0,a0,a1,a2⟩ r h
 intro c hc
 refine WpL.step (sN (K9h hc 4 [] [(33,.bool (decide (a2 < s0.fSize)))] (ic h (fun a3 h => ?_) fun a3 h => ?_)))
 ·refine sk (sN (bk 5 ?_))
  obtain ⟨a4,a5,h⟩ := Qe5 h
  refine K9g hc none (nN 4 [oc (.bool a4),oN]) [33] [(41,.bool (!a4))] (cq (Kc9 _ _ a5) K4e tv) ?_
  rcases is h with ⟨a6,h⟩ | ⟨a6,h⟩
  ·exact cF (!a4) (nF a6) (sk (ri0 hc 3 (Qdn (spec_IsSystem_l0_ih _ _ h c hc))))
  refine cT (!a4) (nT a6) ?_
  obtain rfl := os h
  exact rs0 hc 1 [(2,.bool false)] [] (rt (re [true]))
 obtain rfl := os h
 exact xt 4 (Qdh (Qdo (iv [])))
def Kce (c : Ctx) (s0 : K00) (a0 : Int) : (Unit) ⊕ (Bool) → Exit → Q0a → Prop
 | .inl _ => Qdr c (.exit 2) (mkS [(1,.ra 1 0),(3,I a0)] [(1,K1v s0)])
 | .inr r => Qe0 TIx Tryz.f80 [] (.bool r)
def Kcf : Option (List (List Nat)) := rx [[0],[1],[0],[0],[0],[0],[0,3,4,5],[0],[0],[0],[0,3,4,5,6,7,8,9],[0,2,3,4,5,6,7,8,9,10],[0,2,3,4,5,6,7,8,9,10,11],[13],[14],[15]]
def Kcg : Option (List (List Nat)) := rx [[0],[1],[0],[0],[0],[0,2,3,4],[0,2,3,4,5],[0,2,3,4,5,6],[0,2,3,4,5,6],[0,2,3,4,5,6],[0,2,3,4,5,6,7,8,9],[0,2,3,4,5,6,7,8,9,10],[0,2,3,4,5,6,7,8,9,10,11],[13],[14],[15]]
def Kch (p : K00 × Int × Int) : Option ((Unit) ⊕ (Bool)) :=
 match p with
 | (s0,a0,a1) =>
  if (decide (a1 < s0.fSize)) = true then
  (Kc4 (s0,a0,a1)) >>= fun a2 =>
  if a2 = true then
  (Kcb (s0,a0,a1,0)) >>= fun fl => match fl with
  | .inl () =>
   Kch (s0,a0,(wr (a1 + 1)))
  | .inr r =>
   some (.inr r)
  else
  some (.inr false)
  else
  some (.inl ())
 partial_fixpoint
def Kci (p : K00 × Int × Int) (fl : (Unit) ⊕ (Bool)) : Prop :=
 match p with
 | (s0,a0,a1) => ∀ c : Ctx,c.nt = 42 → WpL Tryz.prog c (cl (cl (cr (cr (cl (cl (cr (cl (cl (cr (cl (cr (cr B80))))))))))))) (Kce c s0 a0 fl) (mkS [(1,.ra 1 0),(3,I a0),(4,I a1)] [(1,K1v s0)])
theorem Kcj : ∀ p r,Kch p = some r → Kci p r := by
 refine Kch.partial_correctness Kci ?_
 rintro spec_IsSystem_l1_f spec_IsSystem_l1_ih ⟨s0,a0,a1⟩ r h
 intro c hc
 refine WpL.step (sN (K9h hc 4 [] [(22,.bool (decide (a1 < s0.fSize)))] (ic h (fun a2 h => ?_) fun a2 h => ?_)))
 ·refine sk (sN (bk 3 (sN ?_)))
  obtain ⟨a3,a4,h⟩ := Qe5 h
  refine K9g hc none [oN,oN,oN,oc (.bool a3),oN] [22] [(29,.bool (!a3))] (cq (Kc6 _ _ a4) K4c tv) ?_
  rcases is h with ⟨a5,h⟩ | ⟨a5,h⟩
  ·refine cF (!a3) (nF a5) (sk (K9e hc 1 [(1,.ra 1 0),(3,I a0),(4,I a1),(5,I 0)] (bk 4 ?_)))
   obtain ⟨fl,a6,h⟩ := Qe5 h
   have hL := Kcd _ _ a6 c hc
   refine lp ?_
   rcases fl with ⟨⟩ | r
   ·exact wl hL (Qdj (ri0 hc 3 (Qdn (spec_IsSystem_l1_ih _ _ h c hc))))
   refine WpL.mono hL ?_
   rintro _ _ ⟨rfl,hfin⟩
   obtain rfl := os h
   exact ⟨rfl,hfin⟩
  refine cT (!a3) (nT a5) ?_
  obtain rfl := os h
  exact rs0 hc 1 [(2,.bool false)] [] (rt (re [true]))
 obtain rfl := os h
 exact xt 2 (Qdh (Qdo (iv [])))
def Kck (c : Ctx) : (Unit) ⊕ (Bool) → Exit → Q0a → Prop
 | .inl _ => Qdr c (.exit 0) (mkS [] [])
 | .inr r => Qe0 TIx Tryz.f80 [] (.bool r)
def Kcl (p : K00 × Int) : Option ((Unit) ⊕ (Bool)) :=
 match p with
 | (s0,a0) =>
  if (decide (a0 < s0.fSize)) = true then
  (Kbq (s0,a0)) >>= fun a1 =>
  if a1 = true then
  (Kch (s0,a0,0)) >>= fun fl => match fl with
  | .inl () =>
   Kcl (s0,(wr (a0 + 1)))
  | .inr r =>
   some (.inr r)
  else
  some (.inr false)
  else
  some (.inl ())
 partial_fixpoint
def Kcm (p : K00 × Int) (fl : (Unit) ⊕ (Bool)) : Prop :=
 match p with
 | (s0,a0) => ∀ c : Ctx,c.nt = 42 → WpL Tryz.prog c (cl (cl (cr (cl (cr (cr B80)))))) (Kck c fl) (mkS [(1,.ra 1 0),(3,I a0)] [(1,K1v s0)])
theorem Kcn : ∀ p r,Kcl p = some r → Kcm p r := by
 refine Kcl.partial_correctness Kcm ?_
 rintro spec_IsSystem_l2_f spec_IsSystem_l2_ih ⟨s0,a0⟩ r h
 intro c hc
 refine WpL.step (sN (K9h hc 4 [] [(12,.bool (decide (a0 < s0.fSize)))] (ic h (fun a1 h => ?_) fun a1 h => ?_)))
 ·refine sk (sN (bk 1 (sN ?_)))
  obtain ⟨a2,a3,h⟩ := Qe5 h
  refine K9g hc none [oN,oN,oc (.bool a2),oN] [12] [(18,.bool (!a2))] (cq (Kbs _ _ a3) K48 tv) ?_
  rcases is h with ⟨a4,h⟩ | ⟨a4,h⟩
  ·refine cF (!a2) (nF a4) (sk (K9e hc 1 [(1,.ra 1 0),(3,I a0),(4,I 0)] (bk 2 ?_)))
   obtain ⟨fl,a5,h⟩ := Qe5 h
   have hL := Kcj _ _ a5 c hc
   refine lp ?_
   rcases fl with ⟨⟩ | r
   ·exact wl hL (Qdj (ri0 hc 3 (Qdn (spec_IsSystem_l2_ih _ _ h c hc))))
   refine WpL.mono hL ?_
   rintro _ _ ⟨rfl,hfin⟩
   obtain rfl := os h
   exact ⟨rfl,hfin⟩
  refine cT (!a2) (nT a4) ?_
  obtain rfl := os h
  exact rs0 hc 1 [(2,.bool false)] [] (rt (re [true]))
 obtain rfl := os h
 exact xt 0 (Qdh (Qdo (iv [])))
def Kco (s0 : K00) : Option (Bool) :=
 (Kba s0) >>= fun a0 =>
 if a0 = true then
 (Kcl (s0,0)) >>= fun fl => match fl with
 | .inl () =>
  some true
 | .inr r =>
  some r
 else
 some false
def Kcp (s0 : K00) (r : Bool) : Prop :=
 Q77 Tryz.prog 80 [K1w s0] (.bool r) []
theorem Kcq : ∀ p r,Kco p = some r → Kcp p r := by
 rintro s0 r h
 unfold Kco at h
 refine b0 Tryz.f80 B80 42 [(0,K1w s0)] fun c hc => (rs hc none [nW 1,oN] [(1,.ra 1 0)] [(1,K1v s0)] tv (sN ?_))
 obtain ⟨a0,a1,h⟩ := Qe5 h
 refine K9g hc none [oN,oc (.bool a0),oN] [] [(8,.bool (!a0))] (cq (Kbc _ _ a1) K40 tv) ?_
 rcases is h with ⟨a2,h⟩ | ⟨a2,h⟩
 ·refine cF (!a0) (nF a2) (sk (sN (K9e hc 1 [(1,.ra 1 0),(3,I 0)] (bk 0 ?_))))
  obtain ⟨fl,a3,h⟩ := Qe5 h
  have hL := Kcn _ _ a3 c hc
  refine lp ?_
  rcases fl with ⟨⟩ | r
  ·refine wl hL ?_
   obtain rfl := os h
   exact Qdj (rs0 hc 1 [(2,.bool true)] [] (rt (rq [true])))
  refine WpL.mono hL ?_
  rintro _ _ ⟨rfl,hfin⟩
  obtain rfl := os h
  exact ⟨.inl rfl,hfin⟩
 refine cT (!a0) (nT a2) ?_
 obtain rfl := os h
 exact rs0 hc 1 [(2,.bool false)] [] (rt (rq [true]))
def Kcr (p : K00 × K00) : Option (Bool) :=
 match p with
 | (a0,b1) =>
  ((
  (Kco a0) >>= fun a1 =>
  if a1 = true then
  (Kco b1) >>= fun a2 =>
  if a2 = true then
  some ((decide ((wr (a0.fSize * b1.fSize)) ≤ 16)))
  else
  some (false)
  else
  some (false)
  ) : Option (Bool)) >>= fun a3 =>
  some a3
def Kcs (p : K00 × K00) (r : Bool) : Prop :=
 match p with
 | (a0,b1) => Q77 Tryz.prog 207 [K1w a0,K1w b1] (.bool r) []
theorem Kct : ∀ p r,Kcr p = some r → Kcs p r := by
 rintro ⟨a0,b1⟩ r h
 unfold Kcr at h
 refine b0 Tryz.f207 K4g 19 [(0,K1w a0),(1,K1w b1)] fun c hc => (rs hc none [nW 1,nW 2,oN] [(2,.ra 1 0),(3,.ra 2 0)] [(1,K1v a0),(2,K1v b1)] tv (sN ?_))
 obtain ⟨a1,a2,h⟩ := Qe5 h
 refine Wp.into (x := .normal) (mkS [(4,.bool a1)] []) ?_ ?_
 ·replace h := a2
  obtain ⟨a3,a4,h⟩ := Qe5 h
  rcases is h with ⟨a5,h⟩ | ⟨a5,h⟩
  ·obtain ⟨a6,a7,h⟩ := Qe5 h
   rcases is h with ⟨a8,h⟩ | ⟨a8,h⟩
   ·obtain rfl := os h
    exact rj hc none ([oN,oc (.bool a3),oN,oN,oc (.bool a6),oT]++nN 7 [oT,oN]) (cq (Kcq _ _ a4) K4f (ar 2 a5 (cq (Kcq _ _ a7) K4f (ai a5 (ar 7 a8 tv)))))
   obtain rfl := os h
   exact rj hc none ([oN,oc (.bool a3),oN,oN,oc (.bool a6),oT,oN]++n_ 6 [oF,oN]) (cq (Kcq _ _ a4) K4f (ar 2 a5 (cq (Kcq _ _ a7) K4f (ai a5 (ar 6 (neT a8) (ai a8 tv))))))
  obtain rfl := os h
  exact rj hc none ([oN,oc (.bool a3),oN,o_,o_,oF,oN]++n_ 6 [oF,oN]) (cq (Kcq _ _ a4) K4f (ar 2 (neT a5) (ai a5 (ar 6 (neT fF) (ai fF tv)))))
 clear a2
 obtain rfl := os h
 exact rt (rq [true])
def Kcu (p : Int × Int) : Option (Int) :=
 match p with
 | (n0,g1) =>
  if (g1 == 0) = true then
  some 0
  else
  if (g1 == 1) = true then
  some 1
  else
  if (decide (g1 ≤ (wr (n0 + 1)))) = true then
  (chk (n0 ≠ 0)) >>= fun _ =>
  some (wr (Int.tdiv (wr (g1 - 1)) n0))
  else
  (chk (n0 ≠ 0)) >>= fun _ =>
  some (wr (Int.tdiv g1 n0))
def Kcv (p : Int × Int) (r : Int) : Prop :=
 match p with
 | (n0,g1) => Q77 Tryz.prog 208 [I n0,I g1] (I r) []
theorem Kcw : ∀ p r,Kcu p = some r → Kcv p r := by
 rintro ⟨n0,g1⟩ r h
 unfold Kcu at h
 refine b0 Tryz.f208 K4i 23 [(0,I n0),(1,I g1)] fun c hc => (K9f hc 1 [] [] [] (sN (bk 0 (K9f hc 3 [] [(5,.bool (g1 == 0))] [] (ic h (fun a0 h => ?_) fun a0 h => ?_)))))
 ·obtain rfl := os h
  exact rs0 hc 1 [(4,I 0)] [] (rt (rq [true]))
 refine K9f hc 3 [5] [(8,.bool (g1 == 1))] [] (ic h (fun a1 h => ?_) fun a1 h => ?_)
 ·obtain rfl := os h
  exact rs0 hc 1 [(4,I 1)] [] (rt (rq [true]))
 refine K9f hc 5 [8] [(11,.bool (decide (g1 ≤ (wr (n0 + 1)))))] [] (ic h (fun a2 h => ?_) fun a2 h => ?_)
 ·obtain ⟨_,a3,h⟩ := Qe5 h
  obtain rfl := os h
  exact rs hc none (nN 5 []) [(4,I (wr (Int.tdiv (wr (g1 - 1)) n0)))] [] (ai (Qe7 a3) tv) (rt (rq [true]))
 refine sk ?_
 obtain ⟨_,a4,h⟩ := Qe5 h
 obtain rfl := os h
 exact rs hc none (nN 4 []) [(4,I (wr (Int.tdiv g1 n0)))] [] (ai (Qe7 a4) tv) (rt (rq [true]))
def Kcx (p : Int × Int) : Option (Int) :=
 match p with
 | (n0,g1) =>
  if (decide (g1 < 2)) = true then
  some g1
  else
  if (decide (g1 ≤ (wr (n0 + 1)))) = true then
  (chk (n0 ≠ 0)) >>= fun _ =>
  some (Int.tmod (wr (g1 - 1)) n0)
  else
  (chk (n0 ≠ 0)) >>= fun _ =>
  some (Int.tmod g1 n0)
def Kcy (p : Int × Int) (r : Int) : Prop :=
 match p with
 | (n0,g1) => Q77 Tryz.prog 209 [I n0,I g1] (I r) []
theorem Kcz : ∀ p r,Kcx p = some r → Kcy p r := by
 rintro ⟨n0,g1⟩ r h
 unfold Kcx at h
 refine b0 Tryz.f209 K4k 21 [(0,I n0),(1,I g1)] fun c hc => (K9f hc 1 [] [] [] (sN (bk 0 (K9f hc 3 [] [(5,.bool (decide (g1 < 2)))] [] (ic h (fun a0 h => ?_) fun a0 h => ?_)))))
 ·obtain rfl := os h
  exact rs0 hc 2 [(4,I g1)] [] (rt (rq [true]))
 refine K9f hc 5 [5] [(9,.bool (decide (g1 ≤ (wr (n0 + 1)))))] [] (ic h (fun a1 h => ?_) fun a1 h => ?_)
 ·obtain ⟨_,a2,h⟩ := Qe5 h
  obtain rfl := os h
  exact rs hc none (nN 5 []) [(4,I (Int.tmod (wr (g1 - 1)) n0))] [] (ai (Qe7 a2) tv) (rt (rq [true]))
 refine sk ?_
 obtain ⟨_,a3,h⟩ := Qe5 h
 obtain rfl := os h
 exact rs hc none (nN 4 []) [(4,I (Int.tmod g1 n0))] [] (ai (Qe7 a3) tv) (rt (rq [true]))
def Kd0 (p : Int × Int × Int) : Option (Int) :=
 match p with
 | (n0,x1,y2) =>
  if ((wr ((wr (x1 * n0)) + y2)) == 0) = true then
  some 0
  else
  if ((wr ((wr (x1 * n0)) + y2)) == (wr (n0 + 1))) = true then
  some 1
  else
  if (decide ((wr ((wr (x1 * n0)) + y2)) < (wr (n0 + 1)))) = true then
  some (wr ((wr ((wr (x1 * n0)) + y2)) + 1))
  else
  some (wr ((wr (x1 * n0)) + y2))
def Kd1 (p : Int × Int × Int) (r : Int) : Prop :=
 match p with
 | (n0,x1,y2) => Q77 Tryz.prog 210 [I n0,I x1,I y2] (I r) []
theorem Kd2 : ∀ p r,Kd0 p = some r → Kd1 p r := by
 rintro ⟨n0,x1,y2⟩ r h
 unfold Kd0 at h
 refine b0 Tryz.f210 K4m 29 [(0,I n0),(1,I x1),(2,I y2)] fun c hc => (K9f hc 1 [] [] [] (K9f hc 6 [1,2] [(7,I (wr ((wr (x1 * n0)) + y2)))] [] (sN (bk 0 (K9f hc 3 [] [(13,.bool ((wr ((wr (x1 * n0)) + y2)) == 0))] [] (ic h (fun a0 h => ?_) fun a0 h => ?_))))))
 ·obtain rfl := os h
  exact rs0 hc 1 [(6,I 0)] [] (rt (rq [true]))
 refine K9f hc 5 [13] [(16,.bool ((wr ((wr (x1 * n0)) + y2)) == (wr (n0 + 1))))] [] (ic h (fun a1 h => ?_) fun a1 h => ?_)
 ·obtain rfl := os h
  exact rs0 hc 1 [(6,I 1)] [] (rt (rq [true]))
 refine K9f hc 5 [16,0] [(21,.bool (decide ((wr ((wr (x1 * n0)) + y2)) < (wr (n0 + 1)))))] [] (ic h (fun a2 h => ?_) fun a2 h => ?_)
 ·obtain rfl := os h
  exact rs0 hc 3 [(6,I (wr ((wr ((wr (x1 * n0)) + y2)) + 1)))] [] (rt (rq [true]))
 obtain rfl := os h
 exact sk (rs0 hc 2 [(6,I (wr ((wr (x1 * n0)) + y2)))] [] (rt (rq [true])))
def Kd3 (c : Ctx) (a0 : K00) (b1 : K00) (a1 : Int) : (List Int) × (List Int) × (List Bool) → Exit → Q0a → Prop
 | (a2,a3,a4) => Qdr c (.exit 2) (mkS [(2,.ra 1 0),(3,.ra 2 0),(4,.ra 3 0),(6,I b1.fSize),(7,.ra 4 0),(8,I a1)] [(1,K1v a0),(2,K1v b1),(3,zS),(4,.box [I (wr (a0.fSize * b1.fSize)),.rs 29,.rs 30,.rs 31]),(29,rI a2),(30,rI a3),(31,rM AV.bool a4)])
def Kd4 (p : K00 × K00 × Int × (List Int) × (List Int) × (List Bool) × Int) : Option ((List Int) × (List Int) × (List Bool)) :=
 match p with
 | (a0,b1,a1,a2,a3,a4,a5) =>
  if (decide (a5 < (wr (a0.fSize * b1.fSize)))) = true then
  (Kcu (b1.fSize,a1)) >>= fun a6 =>
  (Kcx (b1.fSize,a1)) >>= fun a7 =>
  (Kcu (b1.fSize,a5)) >>= fun a8 =>
  (Kcx (b1.fSize,a5)) >>= fun a9 =>
  (Kbh (a0,a6,a8)) >>= fun b2 =>
  (Kbh (b1,a7,a9)) >>= fun b3 =>
  (Kd0 (b1.fSize,b2,b3)) >>= fun b4 =>
  (Qei (a2.length + [b4].length) 8) >>= fun _ =>
  (Kbk (a0,a6,a8)) >>= fun b5 =>
  (Kbk (b1,a7,a9)) >>= fun b6 =>
  (Kd0 (b1.fSize,b5,b6)) >>= fun b7 =>
  (Qei (a3.length + [b7].length) 8) >>= fun _ =>
  ((
  (Kbn (a0,a6,a8)) >>= fun b8 =>
  if b8 = true then
  (Kbn (b1,a7,a9)) >>= fun b9 =>
  (Qei (a4.length + [b9].length) 1) >>= fun _ =>
  some ((a4 ++ [b9]))
  else
  (Qei (a4.length + [false].length) 1) >>= fun _ =>
  some ((a4 ++ [false]))
  ) : Option ((List Bool))) >>= fun c0 =>
  Kd4 (a0,b1,a1,(a2 ++ [b4]),(a3 ++ [b7]),c0,(wr (a5 + 1)))
  else
  some ((a2,a3,a4))
 partial_fixpoint
def Kd5 (p : K00 × K00 × Int × (List Int) × (List Int) × (List Bool) × Int) (fl : (List Int) × (List Int) × (List Bool)) : Prop :=
 match p with
 | (a0,b1,a1,a2,a3,a4,a5) => ∀ c : Ctx,c.nt = 96 → WpL Tryz.prog c (cl (cl (cr (cl (cl (cr (cl (cl (cr (cl (cr (cr (cr (cr K4o)))))))))))))) (Kd3 c a0 b1 a1 fl) (mkS [(2,.ra 1 0),(3,.ra 2 0),(4,.ra 3 0),(6,I b1.fSize),(7,.ra 4 0),(8,I a1),(9,I a5)] [(1,K1v a0),(2,K1v b1),(3,zS),(4,.box [I (wr (a0.fSize * b1.fSize)),.rs 29,.rs 30,.rs 31]),(29,rI a2),(30,rI a3),(31,rM AV.bool a4)])
theorem Kd6 : ∀ p r,Kd4 p = some r → Kd5 p r := by
 refine Kd4.partial_correctness Kd5 ?_
 rintro spec_ProductSystem_l0_f spec_ProductSystem_l0_ih ⟨a0,b1,a1,a2,a3,a4,a5⟩ r h
 intro c hc
 refine WpL.step (sN (K9h hc 4 [] [(35,.bool (decide (a5 < (wr (a0.fSize * b1.fSize)))))] (ic h (fun a6 h => ?_) fun a6 h => ?_)))
 ·refine sk (sN (bk 3 ?_))
  obtain ⟨a7,a8,h⟩ := Qe5 h
  refine K9g hc none [oN,oN,oc (I a7),oN] [35] [(10,I a7)] (cq (Kcw _ _ a8) K4j tv) ?_
  obtain ⟨a9,b2,h⟩ := Qe5 h
  refine K9g hc none [oN,oN,oc (I a9),oN] [] [(11,I a9)] (cq (Kcz _ _ b2) K4l tv) ?_
  obtain ⟨b3,b4,h⟩ := Qe5 h
  refine K9g hc none [oN,oN,oc (I b3),oN] [] [(12,I b3)] (cq (Kcw _ _ b4) K4j tv) ?_
  obtain ⟨b5,b6,h⟩ := Qe5 h
  refine K9g hc none [oN,oN,oc (I b5),oN] [] [(13,I b5)] (cq (Kcz _ _ b6) K4l tv) ?_
  obtain ⟨b7,b8,b9,c0,c1,c2,_,c3,h⟩ := bq4 h
  refine rs hc Kcf (nN 6 [oc (I b7),oN,oN,oN,oc (I b9),oc (I c1),mK 50,some (.eqv (.mk 51 true) ⟨[(63,.rs 51)],[(51,some (rI (a2 ++ [c1]))),(29,none),(50,none)],[51]⟩),oN,oN]) [(2,.ra 1 0),(3,.ra 2 0),(4,.ra 3 0),(6,I b1.fSize),(7,.ra 4 0),(8,I a1),(9,I a5),(10,I a7),(11,I a9),(12,I b3),(13,I b5)] [(1,K1v a0),(2,K1v b1),(3,zS),(4,.box [I (wr (a0.fSize * b1.fSize)),.rs 51,.rs 30,.rs 31]),(30,rI a3),(31,rM AV.bool a4),(51,rI (a2 ++ [c1]))] (cq (Kbj _ _ b8) K42 (cq (Kbj _ _ c0) K42 (cq (Kd2 _ _ c2) K4n (ab (congrArg (fun z => (⟨[(63,.rs 51)],[(51,some (.arr z)),(29,none),(50,none)],[51]⟩ : Wr)) ((List.map_append).symm : (List.map I a2) ++ (List.map I [c1]) = List.map I (a2 ++ [c1]))) (Qej (enc1 := I) (enc2 := I) (e1 := a2) (e2 := [c1]) (sz := 1) Qes Qes c3) tv)))) ?_
  obtain ⟨c4,c5,c6,c7,c8,c9,_,d0,h⟩ := bq4 h
  refine rsd hc Kcf (nN 6 [oc (I c4),oN,oN,oN,oc (I c6),oc (I c8),mK 52,some (.eqv (.mk 53 true) ⟨[(78,.rs 53)],[(53,some (rI (a3 ++ [c8]))),(30,none),(52,none)],[53]⟩),oN,oN]) [] [] [(1,K1v a0),(2,K1v b1),(3,zS),(4,.box [I (wr (a0.fSize * b1.fSize)),.rs 51,.rs 53,.rs 31]),(31,rM AV.bool a4),(51,rI (a2 ++ [c1])),(53,rI (a3 ++ [c8]))] (cq (Kbm _ _ c5) K44 (cq (Kbm _ _ c7) K44 (cq (Kd2 _ _ c9) K4n (ab (congrArg (fun z => (⟨[(78,.rs 53)],[(53,some (.arr z)),(30,none),(52,none)],[53]⟩ : Wr)) ((List.map_append).symm : (List.map I a3) ++ (List.map I [c8]) = List.map I (a3 ++ [c8]))) (Qej (enc1 := I) (enc2 := I) (e1 := a3) (e2 := [c8]) (sz := 1) Qes Qes d0) tv)))) ?_
  obtain ⟨d1,d2,h⟩ := Qe5 h
  refine Wp.into (x := .normal) (mkS [(2,.ra 1 0),(3,.ra 2 0),(4,.ra 3 0),(6,I b1.fSize),(7,.ra 4 0),(8,I a1),(9,I a5)] [(1,K1v a0),(2,K1v b1),(3,zS),(4,.box [I (wr (a0.fSize * b1.fSize)),.rs 51,.rs 53,.rs 55]),(51,rI (a2 ++ [c1])),(53,rI (a3 ++ [c8])),(55,rM AV.bool d1)]) ?_ ?_
  ·replace h := d2
   obtain ⟨d3,d4,h⟩ := Qe5 h
   rcases is h with ⟨d5,h⟩ | ⟨d5,h⟩
   ·obtain ⟨d6,d7,_,d8,h⟩ := bq2 h
    obtain rfl := os h
    exact rj hc Kcg (nN 5 ([oc (.bool d3)]++nN 4 [oc (.bool d6),oT,mK 54,some (.eqv (.mk 55 true) ⟨[(93,.rs 55)],[(55,some (rM AV.bool (a4 ++ [d6]))),(31,none),(54,none)],[55]⟩),oN,oN])) (cq (Kbp _ _ d4) K46 (ar 4 d5 (cq (Kbp _ _ d7) K46 (ac d5 (congrArg (fun z => (⟨[(93,.rs 55)],[(55,some (.arr z)),(31,none),(54,none)],[55]⟩ : Wr)) ((List.map_append).symm : (List.map AV.bool a4) ++ (List.map AV.bool [d6]) = List.map AV.bool (a4 ++ [d6]))) (Qej (enc1 := AV.bool) (enc2 := AV.bool) (e1 := a4) (e2 := [d6]) (sz := 1) Qeu Qeu d8) tv))))
   obtain ⟨_,d8,h⟩ := Qe5 h
   obtain rfl := os h
   exact rj hc Kcg (nN 5 ([oc (.bool d3),oN]++n_ 4 [oF,mK 54,some (.eqv (.mk 55 true) ⟨[(93,.rs 55)],[(55,some (rM AV.bool (a4 ++ [false]))),(31,none),(54,none)],[55]⟩),oN,oN])) (cq (Kbp _ _ d4) K46 (ar 4 (neT d5) (ac d5 (congrArg (fun z => (⟨[(93,.rs 55)],[(55,some (.arr z)),(31,none),(54,none)],[55]⟩ : Wr)) ((List.map_append).symm : (List.map AV.bool a4) ++ (List.map AV.bool [false]) = List.map AV.bool (a4 ++ [false]))) (Qej (enc1 := AV.bool) (enc2 := AV.bool) (e1 := a4) (e2 := [false]) (sz := 1) Qeu Qeu d8) tv)))
  clear d2
  exact K9a hc 3 [(2,.ra 1 0),(3,.ra 2 0),(4,.ra 3 0),(6,I b1.fSize),(7,.ra 4 0),(8,I a1),(9,I (wr (a5 + 1)))] (Qdn (WpL.view (fun a w hv => SRx.renL [(29,51),(30,53),(31,55)] hv (by kernel_rfl) (by kernel_rfl) (by kernel_rfl)) (spec_ProductSystem_l0_ih _ _ h c hc)))
 refine xt 2 (Qdh (Qdo ?_))
 obtain ⟨rfl,hq0⟩ := Prod.mk.inj (os h)
 obtain ⟨rfl,rfl⟩ := Prod.mk.inj (hq0)
 exact iv []
def Kd7 (c : Ctx) (a0 : K00) (b1 : K00) : (List Int) × (List Int) × (List Bool) → Exit → Q0a → Prop
 | (a1,a2,a3) => Qdr c (.exit 0) (mkS [(4,.ra 3 0),(7,.ra 4 0)] [(3,zS),(4,.box [I (wr (a0.fSize * b1.fSize)),.rs 29,.rs 30,.rs 31]),(29,rI a1),(30,rI a2),(31,rM AV.bool a3)])
def Kd8 (p : K00 × K00 × (List Int) × (List Int) × (List Bool) × Int) : Option ((List Int) × (List Int) × (List Bool)) :=
 match p with
 | (a0,b1,a1,a2,a3,a4) =>
  if (decide (a4 < (wr (a0.fSize * b1.fSize)))) = true then
  (Kd4 (a0,b1,a4,a1,a2,a3,0)) >>= fun (a5,a6,a7) =>
  Kd8 (a0,b1,a5,a6,a7,(wr (a4 + 1)))
  else
  some ((a1,a2,a3))
 partial_fixpoint
def Kd9 (p : K00 × K00 × (List Int) × (List Int) × (List Bool) × Int) (fl : (List Int) × (List Int) × (List Bool)) : Prop :=
 match p with
 | (a0,b1,a1,a2,a3,a4) => ∀ c : Ctx,c.nt = 96 → WpL Tryz.prog c (cl (cl (cr (cl (cr (cr (cr (cr K4o)))))))) (Kd7 c a0 b1 fl) (mkS [(2,.ra 1 0),(3,.ra 2 0),(4,.ra 3 0),(6,I b1.fSize),(7,.ra 4 0),(8,I a4)] [(1,K1v a0),(2,K1v b1),(3,zS),(4,.box [I (wr (a0.fSize * b1.fSize)),.rs 29,.rs 30,.rs 31]),(29,rI a1),(30,rI a2),(31,rM AV.bool a3)])
theorem Kda : ∀ p r,Kd8 p = some r → Kd9 p r := by
 refine Kd8.partial_correctness Kd9 ?_
 rintro spec_ProductSystem_l1_f spec_ProductSystem_l1_ih ⟨a0,b1,a1,a2,a3,a4⟩ r h
 intro c hc
 refine WpL.step (sN (K9h hc 4 [] [(29,.bool (decide (a4 < (wr (a0.fSize * b1.fSize)))))] (ic h (fun a5 h => ?_) fun a5 h => ?_)))
 ·refine sk (sN (bk 1 (K9e hc 1 [(2,.ra 1 0),(3,.ra 2 0),(4,.ra 3 0),(6,I b1.fSize),(7,.ra 4 0),(8,I a4),(9,I 0)] (bk 2 ?_))))
  obtain ⟨⟨a6,a7,a8⟩,a9,h⟩ := Qe5 h
  have hL := Kd6 _ _ a9 c hc
  exact lp (wl hL (Qdj (ri0 hc 3 (Qdn (spec_ProductSystem_l1_ih _ _ h c hc)))))
 refine xt 0 (Qdh (Qdo ?_))
 obtain ⟨rfl,hq0⟩ := Prod.mk.inj (os h)
 obtain ⟨rfl,rfl⟩ := Prod.mk.inj (hq0)
 exact iv []
def Kdb (p : K00 × K00) : Option (K00 × Bool) :=
 match p with
 | (a0,b1) =>
  (Kcr (a0,b1)) >>= fun a1 =>
  if a1 = true then
  (Kd8 (a0,b1,[],[],[],0)) >>= fun (a2,a3,a4) =>
  some ((K00.mk (wr (a0.fSize * b1.fSize)) a2 a3 a4),true)
  else
  some ((K00.mk 0 [] [] []),false)
def Kdc (p : K00 × K00) (r : K00 × Bool) : Prop :=
 match p with
 | (a0,b1) => Q77 Tryz.prog 154 [K1w a0,K1w b1] (.tup [.agg [I r.1.fSize,.osl (List.map I r.1.fPlus),.osl (List.map I r.1.fTimes),.osl (List.map AV.bool r.1.fBelow)],.bool r.2]) []
theorem Kdd : ∀ p r,Kdb p = some r → Kdc p r := by
 rintro ⟨a0,b1⟩ r h
 unfold Kdb at h
 refine b0 Tryz.f154 K4o 96 [(0,K1w a0),(1,K1w b1)] fun c hc => (rs hc none [nW 1,nW 2,nW 3,oN] [(2,.ra 1 0),(3,.ra 2 0),(4,.ra 3 0)] [(1,K1v a0),(2,K1v b1),(3,zS)] tv (sN ?_))
 obtain ⟨a1,a2,h⟩ := Qe5 h
 refine K9g hc none [oN,oN,oc (.bool a1),oN] [] [(17,.bool (!a1))] (cq (Kct _ _ a2) K4h tv) ?_
 rcases is h with ⟨a3,h⟩ | ⟨a3,h⟩
 ·refine cF (!a1) (nF a3) (sk (K9h hc 3 [17] [(6,I b1.fSize)] (rsd hc none (nN 5 [nW 4,oN]) [] [(7,.ra 4 0)] [(1,K1v a0),(2,K1v b1),(3,zS),(4,.box [I (wr (a0.fSize * b1.fSize)),.nils,.nils,.nils])] tv (sN (K9e hc 1 [(2,.ra 1 0),(3,.ra 2 0),(4,.ra 3 0),(6,I b1.fSize),(7,.ra 4 0),(8,I 0)] (bk 0 ?_))))))
  obtain ⟨⟨a4,a5,a6⟩,a7,h⟩ := Qe5 h
  have hL := Kda _ _ a7 c hc
  refine Wp.loopN (by kernel_rfl) (WpL.view (fun a w hv => SRx.renL [(29,56),(30,57),(31,58)] (SRx.nilBL 4 3 58 [I (wr (a0.fSize * b1.fSize)),.rs 56,.rs 57,.nils] (SRx.nilBL 4 2 57 [I (wr (a0.fSize * b1.fSize)),.rs 56,.nils,.nils] (SRx.nilBL 4 1 56 [I (wr (a0.fSize * b1.fSize)),.nils,.nils,.nils] hv (by kernel_rfl) (by kernel_rfl) (by kernel_rfl)) (by kernel_rfl) (by kernel_rfl) (by kernel_rfl)) (by kernel_rfl) (by kernel_rfl) (by kernel_rfl)) (by kernel_rfl) (by kernel_rfl) (by kernel_rfl)) (?_ : WpL _ c _ _ (mkS [(2,.ra 1 0),(3,.ra 2 0),(4,.ra 3 0),(6,I b1.fSize),(7,.ra 4 0),(8,I 0)] [(1,K1v a0),(2,K1v b1),(3,zS),(4,.box [I (wr (a0.fSize * b1.fSize)),.rs 29,.rs 30,.rs 31]),(29,.arr (List.map I [])),(30,.arr (List.map I [])),(31,.arr (List.map AV.bool []))])))
  refine wl hL ?_
  obtain rfl := os h
  exact Qdj (K9f hc 3 [7] [(5,.bool true)] [(3,.box [I (wr (a0.fSize * b1.fSize)),.rs 29,.rs 30,.rs 31]),(29,rI a4),(30,rI a5),(31,rM AV.bool a6)] (rt (rq [true,true])))
 refine cT (!a1) (nT a3) ?_
 obtain rfl := os h
 exact K9f hc 3 [17,2,3] [(5,.bool false)] [(3,zS)] (rt (rq [true,true]))
def Kde (c0 : K02) : Option (K00 × K02) :=
 (Ka2 (c0,3)) >>= fun (a0,a1) =>
 (Kam (wr (1 + a0))) >>= fun a2 =>
 (Ka2 (a1,8)) >>= fun (a3,a4) =>
 ((
 if (a3 == 0) = true then
 some ((a3 == 0))
 else
 ((
 if (a3 == 1) = true then
 some ((a3 == 1))
 else
 some ((a3 == 2))
 ) : Option (Bool)) >>= fun a5 =>
 some (a5)
 ) : Option (Bool)) >>= fun a6 =>
 ((
 if a6 = true then
 (Kap (wr (1 + a0))) >>= fun a7 =>
 some ((a7.fSize,a7.fPlus,a7.fTimes,a7.fBelow,a4.fb,a4.fi,a4.fh))
 else
 ((
 if (a3 == 3) = true then
 some ((a3 == 3))
 else
 some ((a3 == 4))
 ) : Option (Bool)) >>= fun a8 =>
 ((
 if a8 = true then
 (Kb3 (wr (1 + a0))) >>= fun a9 =>
 some ((a9.fSize,a9.fPlus,a9.fTimes,a9.fBelow,a4.fb,a4.fi,a4.fh))
 else
 ((
 if (a3 == 5) = true then
 (Kap 1) >>= fun b1 =>
 (Ka2 (a4,2)) >>= fun (b2,b3) =>
 (Kb3 (wr (1 + b2))) >>= fun b4 =>
 (Kdb (b1,b4)) >>= fun (b5,b6) =>
 some ((b5.fSize,b5.fPlus,b5.fTimes,b5.fBelow,b3.fb,b3.fi,b3.fh))
 else
 some ((a2.fSize,a2.fPlus,a2.fTimes,a2.fBelow,a4.fb,a4.fi,a4.fh))
 ) : Option (Int × (List Int) × (List Int) × (List Bool) × (List Int) × Int × Int)) >>= fun (b7,b8,b9,c1,c2,c3,c4) =>
 some ((b7,b8,b9,c1,c2,c3,c4))
 ) : Option (Int × (List Int) × (List Int) × (List Bool) × (List Int) × Int × Int)) >>= fun (c5,c6,c7,c8,c9,d0,d1) =>
 some ((c5,c6,c7,c8,c9,d0,d1))
 ) : Option (Int × (List Int) × (List Int) × (List Bool) × (List Int) × Int × Int)) >>= fun (d2,d3,d4,d5,d6,d7,d8) =>
 some ((K00.mk d2 d3 d4 d5),(K02.mk d6 d7 d8))
def Kdf (c0 : K02) (r : K00 × K02) : Prop :=
 Q77 Tryz.prog 72 [K23 c0] (.agg [I r.1.fSize,.osl (List.map I r.1.fPlus),.osl (List.map I r.1.fTimes),.osl (List.map AV.bool r.1.fBelow)]) [K23 r.2]
theorem Kdg : ∀ p r,Kde p = some r → Kdf p r := by
 rintro c0 r h
 unfold Kde at h
 refine Q77.bodyO K3d (fn := Tryz.f72) (code := B72) (by kernel_rfl) (by kernel_rfl) (by kernel_rfl) (nt := 35) (by kernel_rfl) (by kernel_rfl) (T := [(0,.ra 1000 0)]) (O := [(1000,K21 c0)]) (by kernel_rfl) (by kernel_rfl) (fun c hc => ?_)
 refine rs hc none [nW 1] [(0,.ra 1000 0),(2,.ra 1 0)] [(1,zS),(1000,K21 c0)] tv ?_
 obtain ⟨⟨a0,a1⟩,a2,h⟩ := Qe5 h
 refine rsd hc none [oN,some (.call (I a0) [K23 a1,.undef] 1),oN,oN] [] [(3,I (wr (1 + a0)))] [(1,zS),(1000,K21 a1)] (ab (Ka4 _ _ a2) K3m tv) ?_
 obtain ⟨a3,a4,h⟩ := Qe5 h
 refine rsd hc none [oN,some (.call (K2d a3) [] 2),nW 5,oN] [] [(4,.ra 5 0)] [(1,zS),(2,rI a3.fPlus),(3,rI a3.fTimes),(4,rM AV.bool a3.fBelow),(5,.box [I a3.fSize,.rs 2,.rs 3,.rs 4]),(1000,K21 a1)] (cq (Kao _ _ a4) K3t tv) (sN ?_)
 obtain ⟨⟨a5,a6⟩,a7,h⟩ := Qe5 h
 refine rsd hc none [oN,some (.call (I a5) [K23 a6,.undef] 1)] [] [(11,I a5)] [(1,zS),(2,rI a3.fPlus),(3,rI a3.fTimes),(4,rM AV.bool a3.fBelow),(5,.box [I a3.fSize,.rs 2,.rs 3,.rs 4]),(1000,K21 a6)] (ab (Ka4 _ _ a7) K3m tv) (bk 0 (sN (K9h hc 2 [] [(12,.bool (a5 == 0))] ?_)))
 obtain ⟨a8,a9,h⟩ := Qe5 h
 refine wi [12] [(12,.bool a8)] ?_ ?_
 ·replace h := a9
  refine ic h (fun b1 h => ?_) fun b1 h => ?_
  ·obtain rfl := os h
   exact sk im
  refine K9h hc 2 [12] [(12,.bool (a5 == 1))] ?_
  obtain ⟨b2,b3,h⟩ := Qe5 h
  refine Wp.into (x := .normal) (mkS [(0,.ra 1000 0),(2,.ra 1 0),(3,I (wr (1 + a0))),(4,.ra 5 0),(11,I a5),(12,.bool b2)] [(1,zS),(2,rI a3.fPlus),(3,rI a3.fTimes),(4,rM AV.bool a3.fBelow),(5,.box [I a3.fSize,.rs 2,.rs 3,.rs 4]),(1000,K21 a6)]) ?_ ?_
  ·replace h := b3
   refine ic h (fun b4 h => ?_) fun b4 h => ?_
   ·obtain rfl := os h
    exact sk im
   obtain rfl := os h
   exact rj0 hc 2
  clear b3
  obtain rfl := os h
  exact im
 clear a9
 obtain ⟨⟨b5,b6,b7,b8,b9,c1,c2⟩,c3,h⟩ := Qe5 h
 refine Wp.into (x := .normal) (mkS [(2,.ra 1 0),(4,.ra 5 0)] [(1,zS),(5,.box [I b5,.rs 6,.rs 7,.rs 8]),(6,rI b6),(7,rI b7),(8,rM AV.bool b8),(1000,.box [sM U8 b9,I c1,I c2])]) ?_ ?_
 ·replace h := c3
  refine ic h (fun c4 h => ?_) fun c4 h => ?_
  ·obtain ⟨c5,c6,h⟩ := Qe5 h
   obtain ⟨rfl,hq0⟩ := Prod.mk.inj (os h)
   obtain ⟨rfl,hq1⟩ := Prod.mk.inj (hq0)
   obtain ⟨rfl,hq2⟩ := Prod.mk.inj (hq1)
   obtain ⟨rfl,hq3⟩ := Prod.mk.inj (hq2)
   obtain ⟨rfl,hq4⟩ := Prod.mk.inj (hq3)
   obtain ⟨rfl,rfl⟩ := Prod.mk.inj (hq4)
   exact rj hc none [oN,some (.call (K2d c5) [] 6),oN] (cq (Kar _ _ c6) K3u tv)
  refine sN (K9e hc 2 [(0,.ra 1000 0),(2,.ra 1 0),(3,I (wr (1 + a0))),(4,.ra 5 0),(11,I a5),(18,.bool (a5 == 3))] ?_)
  obtain ⟨c7,c8,h⟩ := Qe5 h
  refine wi [18] [(18,.bool c7)] ?_ ?_
  ·replace h := c8
   refine ic h (fun c9 h => ?_) fun c9 h => ?_
   ·obtain rfl := os h
    exact sk im
   obtain rfl := os h
   exact rj0 hc 2
  clear c8
  obtain ⟨⟨d0,d1,d2,d3,d4,d5,d6⟩,d7,h⟩ := Qe5 h
  refine Wp.into (x := .normal) (mkS [(2,.ra 1 0),(4,.ra 5 0)] [(1,zS),(5,.box [I d0,.rs 9,.rs 10,.rs 11]),(9,rI d1),(10,rI d2),(11,rM AV.bool d3),(1000,.box [sM U8 d4,I d5,I d6])]) ?_ ?_
  ·replace h := d7
   refine ic h (fun d8 h => ?_) fun d8 h => ?_
   ·obtain ⟨d9,e0,h⟩ := Qe5 h
    obtain ⟨rfl,hq0⟩ := Prod.mk.inj (os h)
    obtain ⟨rfl,hq1⟩ := Prod.mk.inj (hq0)
    obtain ⟨rfl,hq2⟩ := Prod.mk.inj (hq1)
    obtain ⟨rfl,hq3⟩ := Prod.mk.inj (hq2)
    obtain ⟨rfl,hq4⟩ := Prod.mk.inj (hq3)
    obtain ⟨rfl,rfl⟩ := Prod.mk.inj (hq4)
    exact rj hc none [oN,some (.call (K2d d9) [] 9),oN] (cq (Kb5 _ _ e0) K3y tv)
   refine K9h hc 2 [18,3,11] [(23,.bool (a5 == 5))] ?_
   obtain ⟨⟨e1,e2,e3,e4,e5,e6,e7⟩,e8,h⟩ := Qe5 h
   refine Wp.into (x := .normal) (mkS [(2,.ra 1 0),(4,.ra 5 0)] [(1,zS),(5,.box [I e1,.rs 18,.rs 19,.rs 20]),(18,rI e2),(19,rI e3),(20,rM AV.bool e4),(1000,.box [sM U8 e5,I e6,I e7])]) ?_ ?_
   ·replace h := e8
    refine ic h (fun e9 h => ?_) fun e9 h => ?_
    ·obtain ⟨f0,f1,⟨f2,f3⟩,f4,h⟩ := bq2 h
     obtain ⟨f5,f6,⟨f7,f8⟩,f9,h⟩ := bq2 h
     obtain ⟨rfl,hq0⟩ := Prod.mk.inj (os h)
     obtain ⟨rfl,hq1⟩ := Prod.mk.inj (hq0)
     obtain ⟨rfl,hq2⟩ := Prod.mk.inj (hq1)
     obtain ⟨rfl,hq3⟩ := Prod.mk.inj (hq2)
     obtain ⟨rfl,hq4⟩ := Prod.mk.inj (hq3)
     obtain ⟨rfl,rfl⟩ := Prod.mk.inj (hq4)
     exact rj hc none ([some (.call (K2d f0) [] 12),oN,some (.call (I f2) [K23 f3,.undef] 1),oN,some (.call (K2d f5) [] 15),some (.call (.tup [K2d f7,.bool f8]) [] 18)]++nN 4 []) (cq (Kar _ _ f1) K3u (ab (Ka4 _ _ f4) K3m (cq (Kb5 _ _ f6) K3y (ac (Q77.args (A1 := [K2e f0,K2e f5]) (A2 := [K1w f0,K1w f5]) (by simp only [K2e,List.map_nil,Qez,Qex]) (Kdd _ _ f9)) K4p (Or.inr (Qf7 (Qf7 rfl (Qf7 (Qf5 Qf1 f7.fPlus) (Qf7 (Qf5 Qf1 f7.fTimes) (Qf7 (Qf5 Qf3 f7.fBelow) rfl)))) (Qf7 rfl rfl)) : ([12,13,14,15,16,17] : List Nat) = [] ∨ noSh (.tup [K2d f7,.bool f8]) = true) tv))))
    refine sk ?_
    obtain ⟨rfl,hq0⟩ := Prod.mk.inj (os h)
    obtain ⟨rfl,hq1⟩ := Prod.mk.inj (hq0)
    obtain ⟨rfl,hq2⟩ := Prod.mk.inj (hq1)
    obtain ⟨rfl,hq3⟩ := Prod.mk.inj (hq2)
    obtain ⟨rfl,hq4⟩ := Prod.mk.inj (hq3)
    obtain ⟨rfl,rfl⟩ := Prod.mk.inj (hq4)
    exact iv [(18,2),(19,3),(20,4)]
   clear e8
   obtain ⟨rfl,hq0⟩ := Prod.mk.inj (os h)
   obtain ⟨rfl,hq1⟩ := Prod.mk.inj (hq0)
   obtain ⟨rfl,hq2⟩ := Prod.mk.inj (hq1)
   obtain ⟨rfl,hq3⟩ := Prod.mk.inj (hq2)
   obtain ⟨rfl,hq4⟩ := Prod.mk.inj (hq3)
   obtain ⟨rfl,rfl⟩ := Prod.mk.inj (hq4)
   exact iv [(9,18),(10,19),(11,20)]
  clear d7
  obtain ⟨rfl,hq0⟩ := Prod.mk.inj (os h)
  obtain ⟨rfl,hq1⟩ := Prod.mk.inj (hq0)
  obtain ⟨rfl,hq2⟩ := Prod.mk.inj (hq1)
  obtain ⟨rfl,hq3⟩ := Prod.mk.inj (hq2)
  obtain ⟨rfl,hq4⟩ := Prod.mk.inj (hq3)
  obtain ⟨rfl,rfl⟩ := Prod.mk.inj (hq4)
  exact iv [(6,9),(7,10),(8,11)]
 clear c3
 obtain rfl := os h
 exact K9f hc 2 [4] [] [(1,.box [I b5,.rs 6,.rs 7,.rs 8]),(6,rI b6),(7,rI b7),(8,rM AV.bool b8),(1000,.box [sM U8 b9,I c1,I c2])] (rt (rr [true]))
def Kdh (c : Ctx) : (List Int) → Exit → Q0a → Prop
 | a0 => Qdr c (.exit 0) (mkS [(5,.rs 1)] [(1,rI a0)])
def Kdi (p : LL × (List Int) × Int) : Option ((List Int)) :=
 match p with
 | (parts1,a0,a1) =>
  if (decide (a1 < (parts1.length : Int))) = true then
  (idx parts1 a1) >>= fun a2 =>
  (Qei (a0.length + a2.length) 8) >>= fun _ =>
  Kdi (parts1,(a0 ++ a2),(wr (a1 + 1)))
  else
  some (a0)
 partial_fixpoint
def Kdj (p : LL × (List Int) × Int) (fl : (List Int)) : Prop :=
 match p with
 | (parts1,a0,a1) => ∀ c : Ctx,c.nt = 22 → WpL Tryz.prog c (cl (cl (cr (cl (cr (cr K4s)))))) (Kdh c fl) (mkS [(1,sL parts1),(5,.rs 1),(6,I a1)] [(1,rI a0)])
theorem Kdk : ∀ p r,Kdi p = some r → Kdj p r := by
 refine Kdi.partial_correctness Kdj ?_
 rintro spec_l3Glue_l0_f spec_l3Glue_l0_ih ⟨parts1,a0,a1⟩ r h
 intro c hc
 refine WpL.step (sN (K9g hc none [oN,oN,nQ ⟨[(11,I (parts1.length : Int))],[],[]⟩,oN] [] [(12,.bool (decide (a1 < (parts1.length : Int))))] (ai (Qeb (d := 11) K14 parts1) tv) (ic h (fun a2 h => ?_) fun a2 h => ?_)))
 ·refine sk (sN (bk 1 ?_))
  obtain ⟨a3,a4,_,a5,h⟩ := bq2 h
  exact rgd hc none [oN,oN,oN,eL (sI a3),oN,some (.eqv (.mk 3 true) ⟨[(20,.rs 3)],[(3,some (rI (a0 ++ a3))),(1,none)],[3]⟩),oN] [12,5] [(5,.rs 3)] [(3,rI (a0 ++ a3))] (ac (xL a4) (congrArg (fun z => (⟨[(20,.rs 3)],[(3,some (.arr z)),(1,none)],[3]⟩ : Wr)) ((List.map_append).symm : (List.map I a0) ++ (List.map I a3) = List.map I (a0 ++ a3))) (Qej (enc1 := I) (enc2 := I) (e1 := a0) (e2 := a3) (sz := 1) Qes Qes a5) tv) (K9a hc 3 [(1,sL parts1),(5,.rs 3),(6,I (wr (a1 + 1)))] (Qdn (WpL.view (fun a w hv => SRx.renL [(1,3)] hv (by kernel_rfl) (by kernel_rfl) (by kernel_rfl)) (spec_l3Glue_l0_ih _ _ h c hc))))
 obtain rfl := os h
 exact xt 0 (Qdh (Qdo (iv [])))
def Kdl (p : Int × LL) : Option ((List Int)) :=
 match p with
 | (c0,parts1) =>
  (Kdi (parts1,[c0],0)) >>= fun a0 =>
  some a0
def Kdm (p : Int × LL) (r : (List Int)) : Prop :=
 match p with
 | (c0,parts1) => Q77 Tryz.prog 155 [I c0,sL parts1] (oI r) []
theorem Kdn : ∀ p r,Kdl p = some r → Kdm p r := by
 rintro ⟨c0,parts1⟩ r h
 unfold Kdl at h
 refine b0 Tryz.f155 K4s 22 [(0,I c0),(1,sL parts1)] fun c hc => (K9f hc 1 [] [] [] (rsd hc none [oN,mK 1,oN] [0] [(5,.rs 1)] [(1,.arr (List.map I [c0]))] tv (sN (K9e hc 1 [(1,sL parts1),(5,.rs 1),(6,I 0)] (bk 0 ?_)))))
 obtain ⟨a0,a1,h⟩ := Qe5 h
 have hL := Kdk _ _ a1 c hc
 refine lp (wl hL ?_)
 obtain rfl := os h
 exact Qdj (K9e hc 2 [(4,.rs 1)] (rt (rq [true])))
end Go.Am
