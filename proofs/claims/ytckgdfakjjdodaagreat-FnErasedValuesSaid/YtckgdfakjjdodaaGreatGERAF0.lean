/- Walks, printed. -/
import Derived.Test.YtckgdfakjjdodaaGreatGERATi
set_option linter.unusedVariables false
set_option linter.unusedSimpArgs false
set_option maxRecDepth 100000
namespace Go.Am
open Go Go.Proofs
def K7f : Option (List (List Nat)) := rx [[0],[1],[0],[3],[4],[0],[0,5],[0,5,6],[8],[9],[10],[11],[12],[11],[14],[15],[11],[11,16],[11,16,17],[19],[20],[21]]
def K7g (code0 : (List Int)) : Option (Bool) :=
 some (decide ((code0.length : Int) > 1048576))
def K7h (code0 : (List Int)) (r : Bool) : Prop :=
 Q75 Tryz.prog 14 [.sl (List.map U8 code0)] (.bool r) []
theorem K7i : ∀ p r,K7g p = some r → K7h p r := by
 rintro code0 r h
 unfold K7g at h
 refine b0 Tryz.f14 B14 6 [(0,.sl (List.map U8 code0))] fun c hc => ?_
 refine rs0 hc 1 [(0,.sl (List.map U8 code0))] [] ?_
 refine rs hc none [oN,some (.eqv (.no) ⟨[(4,I (code0.length : Int))],[],[]⟩),oN,oN] [(2,.bool (decide ((code0.length : Int) > 1048576)))] [] (ai (Qdy (d := 4) U8 code0) tv) ?_
 refine rt ?_
 obtain rfl := os h
 exact rq [true]
def K7j (c : Ctx) (code0 : List Int) : Int → Exit → Q0a → Prop
 | a0 => Qde c (.exit 0) (mkS [(0,.sl (List.map U8 code0)),(3,I a0)] [])
def K7k (p : (List Int) × Int × Int) : Option (Int) :=
 match p with
 | (code0,a0,a1) =>
  ((
  if (decide (a1 < (code0.length : Int))) = true then
  some ((decide (a1 < 4000)))
  else
  some (false)
  ) : Option (Bool)) >>= fun a2 =>
  if a2 = true then
  (idx code0 a1) >>= fun a3 =>
  K7k (code0,(Q2p .and .i64 (wr ((wr ((wr (a0 * 151)) + (wr a3))) + 7)) 1073741823),(wr (a1 + 1)))
  else
  some (a0)
 partial_fixpoint
def K7l (p : (List Int) × Int × Int) (fl : Int) : Prop :=
 match p with
 | (code0,a0,a1) => ∀ c : Ctx,c.nt = 32 → WpL Tryz.prog c (cl (cl (cr (cl (cr (cr B71)))))) (K7j c code0 fl) (mkS [(0,.sl (List.map U8 code0)),(3,I a0),(4,I a1)] [])
theorem K7m : ∀ p r,K7k p = some r → K7l p r := by
 refine K7k.partial_correctness K7l ?_
 rintro spec_l1New_l0_f spec_l1New_l0_ih ⟨code0,a0,a1⟩ r h
 intro c hc
 refine WpL.step ?_
 refine sN ?_
 refine sN ?_
 obtain ⟨a2,a3,h⟩ := Qds h
 refine Wp.into (x := .normal) (mkS [(0,.sl (List.map U8 code0)),(3,I a0),(4,I a1),(15,.bool a2)] []) ?_ ?_
 ·replace h := a3
  rcases is h with ⟨a4,h⟩ | ⟨a4,h⟩
  ·refine rg hc none [oN,oN,some (.eqv (.no) ⟨[(10,I (code0.length : Int))],[],[]⟩),oN,oN,oN,oN,oT] [(0,.sl (List.map U8 code0)),(3,I a0),(4,I a1),(15,.bool (decide (a1 < 4000)))] [] (ai (Qdy (d := 10) U8 code0) (ar 3 a4 tv)) ?_
   obtain rfl := os h
   exact Qde.mk
  refine rg hc none [oN,oN,some (.eqv (.no) ⟨[(10,I (code0.length : Int))],[],[]⟩),oN,oN,o_,o_,oF] [(0,.sl (List.map U8 code0)),(3,I a0),(4,I a1),(15,.bool false)] [] (ai (Qdy (d := 10) U8 code0) (ar 2 (neT a4) (ai a4 tv))) ?_
  obtain rfl := os h
  exact Qde.mk
 clear a3
 refine ic h (fun a5 h => ?_) fun a5 h => ?_
 ·refine sk ?_
  refine sN ?_
  refine bk 1 ?_
  obtain ⟨a6,a7,h⟩ := Qds h
  refine rg hc none [oN,oN,oN,oN,some (.el (.int .u8 a6)),oN,oN,oN,oN,oN,oN] [(0,.sl (List.map U8 code0)),(3,I (Q2p .and .i64 (wr ((wr ((wr (a0 * 151)) + (wr a6))) + 7)) 1073741823)),(4,I a1)] [] (ai (Qdw (enc := U8) (x := .int .u8 a6) a7 (Qe8 a6)) tv) ?_
  refine rg0 hc 3 [(0,.sl (List.map U8 code0)),(3,I (Q2p .and .i64 (wr ((wr ((wr (a0 * 151)) + (wr a6))) + 7)) 1073741823)),(4,I (wr (a1 + 1)))] [] ?_
  refine Qda ?_
  exact (spec_l1New_l0_ih _ _ h c hc)
 refine xt 0 ?_
 refine Qd4 ?_
 refine Qdb ?_
 obtain rfl := os h
 exact iv []
def K7n (code0 : (List Int)) : Option (K02) :=
 (K7k (code0,(wr (242117 + (code0.length : Int))),0)) >>= fun a0 =>
 some (K02.mk code0 0 a0)
def K7o (code0 : (List Int)) (r : K02) : Prop :=
 Q75 Tryz.prog 71 [.sl (List.map U8 code0)] (.optr [.sl (List.map U8 r.fb),I r.fi,I r.fh]) []
theorem K7p : ∀ p r,K7n p = some r → K7o p r := by
 rintro code0 r h
 unfold K7n at h
 refine b0 Tryz.f71 B71 32 [(0,.sl (List.map U8 code0))] fun c hc => ?_
 refine rs0 hc 1 [(0,.sl (List.map U8 code0))] [] ?_
 refine rs hc none [oN,some (.eqv (.no) ⟨[(6,I (code0.length : Int))],[],[]⟩),oN,oN] [(0,.sl (List.map U8 code0)),(3,I (wr (242117 + (code0.length : Int))))] [] (ai (Qdy (d := 6) U8 code0) tv) ?_
 refine sN ?_
 refine rs0 hc 1 [(0,.sl (List.map U8 code0)),(3,I (wr (242117 + (code0.length : Int)))),(4,I 0)] [] ?_
 refine bk 0 ?_
 obtain ⟨a0,a1,h⟩ := Qds h
 have hL := K7m _ _ a1 c hc
 refine lp ?_
 refine WpL.into (e := (.exit 0)) (mkS [(0,.sl (List.map U8 code0)),(3,I a0)] []) hL ?_
 refine Qd6 ?_
 refine rs hc none [oN,oN,oN,some (.new 1),oN] [(2,.ra 1 0)] [(1,.box [.sl (List.map U8 code0),I 0,I a0])] tv ?_
 refine rt ?_
 obtain rfl := os h
 exact rq [false,false,false]
def K7q (c0 : K02) : Option (Int × K02) :=
 ((
 if (decide (c0.fi < (c0.fb.length : Int))) = true then
 (idx c0.fb c0.fi) >>= fun a0 =>
 some (((Q2p .and .i64 (wr ((Q2p .and .i64 (Q2p .xor .i64 (Q2r .i64 (wr ((wr (c0.fh * 6364136223846793005)) + 1442695040888963407)) 33) (Q2r .i64 (wr ((wr (c0.fh * 6364136223846793005)) + 1442695040888963407)) 45)) 255) + (wr a0))) 255),(wr (c0.fi + 1))))
 else
 some (((Q2p .and .i64 (Q2p .xor .i64 (Q2r .i64 (wr ((wr (c0.fh * 6364136223846793005)) + 1442695040888963407)) 33) (Q2r .i64 (wr ((wr (c0.fh * 6364136223846793005)) + 1442695040888963407)) 45)) 255),c0.fi))
 ) : Option (Int × Int)) >>= fun (a1,a2) =>
 some (a1,(K02.mk c0.fb a2 (wr ((wr (c0.fh * 6364136223846793005)) + 1442695040888963407))))
def K7r (c0 : K02) (r : Int × K02) : Prop :=
 Q75 Tryz.prog 174 [.optr [.sl (List.map U8 c0.fb),I c0.fi,I c0.fh]] (I r.1) [.optr [.sl (List.map U8 r.2.fb),I r.2.fi,I r.2.fh]]
theorem K7s : ∀ p r,K7q p = some r → K7r p r := by
 rintro c0 r h
 unfold K7q at h
 refine Q75.bodyO K20 (fn := Tryz.f174) (code := K23) (by kernel_rfl) (by kernel_rfl) (by kernel_rfl) (nt := 58) (by kernel_rfl) (by kernel_rfl) (T := [(0,.ra 1000 0)]) (O := [(1000,K1d c0)]) (by kernel_rfl) (by kernel_rfl) (fun c hc => ?_)
 refine K7e hc 1 [(0,.ra 1000 0)] ?_
 refine rs0 hc 10 [(0,.ra 1000 0)] [(1000,.box [.sl (List.map U8 c0.fb),I c0.fi,I (wr ((wr (c0.fh * 6364136223846793005)) + 1442695040888963407))])] ?_
 refine rss hc (rx [[0],[1],[2],[3],[4],[0],[0,5],[0,5,6],[0,5,6,7],[0,5,6,7,8],[10],[11],[12]]) [oN,oN,oN,oN,oN,oN,oN,oN,oN,oN,oN,oN,oN] [(0,.ra 1000 0),(3,I (Q2p .and .i64 (Q2p .xor .i64 (Q2r .i64 (wr ((wr (c0.fh * 6364136223846793005)) + 1442695040888963407)) 33) (Q2r .i64 (wr ((wr (c0.fh * 6364136223846793005)) + 1442695040888963407)) 45)) 255))] (ab ((by decide) : (0 : Int) ≤ 33) ((by decide) : (0 : Int) ≤ 45) tv) ?_
 refine sN ?_
 refine rss hc (rx [[0],[1],[2],[3],[0],[0,4],[0,4,5],[0,4,5,6],[0,4,5,6,7],[9]]) [oN,oN,oN,oN,oN,oN,oN,oN,some (.eqv (.no) ⟨[(33,I (c0.fb.length : Int))],[],[]⟩),oN] [(0,.ra 1000 0),(3,I (Q2p .and .i64 (Q2p .xor .i64 (Q2r .i64 (wr ((wr (c0.fh * 6364136223846793005)) + 1442695040888963407)) 33) (Q2r .i64 (wr ((wr (c0.fh * 6364136223846793005)) + 1442695040888963407)) 45)) 255)),(34,.bool (decide (c0.fi < (c0.fb.length : Int))))] (ai (Qdy (d := 33) U8 c0.fb) tv) ?_
 obtain ⟨⟨a0,a1⟩,a2,h⟩ := Qds h
 refine Wp.into (x := .normal) (mkS [(3,I a0)] [(1000,.box [.sl (List.map U8 c0.fb),I a1,I (wr ((wr (c0.fh * 6364136223846793005)) + 1442695040888963407))])]) ?_ ?_
 ·replace h := a2
  refine ic h (fun a3 h => ?_) fun a3 h => ?_
  ·obtain ⟨a4,a5,h⟩ := Qds h
   refine rss hc (rx [[0],[0],[0,1],[0,1,2],[0,1,2,3],[0],[0,5],[0,5,6],[0,5,6,7],[0,1,2,3,4,5,6,7,8],[0,1,2,3,4,5,6,7,8,9],[0,1,2,3,4,5,6,7,8,9,10],[12],[13],[14]]) [oN,oN,oN,oN,oN,oN,oN,oN,oN,some (.el (.int .u8 a4)),oN,oN,oN,oN,oN] [(0,.ra 1000 0),(3,I (Q2p .and .i64 (wr ((Q2p .and .i64 (Q2p .xor .i64 (Q2r .i64 (wr ((wr (c0.fh * 6364136223846793005)) + 1442695040888963407)) 33) (Q2r .i64 (wr ((wr (c0.fh * 6364136223846793005)) + 1442695040888963407)) 45)) 255) + (wr a4))) 255))] (ai (Qdw (enc := U8) (x := .int .u8 a4) a5 (Qe8 a4)) tv) ?_
   refine rg0 hc 9 [(3,I (Q2p .and .i64 (wr ((Q2p .and .i64 (Q2p .xor .i64 (Q2r .i64 (wr ((wr (c0.fh * 6364136223846793005)) + 1442695040888963407)) 33) (Q2r .i64 (wr ((wr (c0.fh * 6364136223846793005)) + 1442695040888963407)) 45)) 255) + (wr a4))) 255))] [(1000,.box [.sl (List.map U8 c0.fb),I (wr (c0.fi + 1)),I (wr ((wr (c0.fh * 6364136223846793005)) + 1442695040888963407))])] ?_
   obtain ⟨rfl,rfl⟩ := Prod.mk.inj (Option.some.inj h)
   exact Qde.mk
  refine sk ?_
  obtain ⟨rfl,rfl⟩ := Prod.mk.inj (Option.some.inj h)
  exact iv []
 clear a2
 refine K7e hc 2 [(2,I a0)] ?_
 refine rt ?_
 obtain rfl := os h
 exact Qdp.ret (fl := [true]) (by kernel_rfl)
def K7t (p : K02 × Int) : Option (Int × K02) :=
 match p with
 | (c0,n1) =>
  if (decide (n1 ≤ 0)) = true then
  some (0,c0)
  else
  if (decide (n1 ≤ 256)) = true then
  (K7q c0) >>= fun (a0,a1) =>
  (chk (n1 ≠ 0)) >>= fun _ =>
  some ((Int.tmod a0 n1),a1)
  else
  (K7q c0) >>= fun (a2,a3) =>
  (K7q a3) >>= fun (a4,a5) =>
  (K7q a5) >>= fun (a6,a7) =>
  (K7q a7) >>= fun (a8,a9) =>
  (chk (n1 ≠ 0)) >>= fun _ =>
  some ((Int.tmod (wr ((wr ((wr ((wr (a2 * 16777216)) + (wr (a4 * 65536)))) + (wr (a6 * 256)))) + a8)) n1),a9)
def K7u (p : K02 × Int) (r : Int × K02) : Prop :=
 match p with
 | (c0,n1) => Q75 Tryz.prog 90 [.optr [.sl (List.map U8 c0.fb),I c0.fi,I c0.fh],I n1] (I r.1) [.optr [.sl (List.map U8 r.2.fb),I r.2.fi,I r.2.fh],.undef]
theorem K7v : ∀ p r,K7t p = some r → K7u p r := by
 rintro ⟨c0,n1⟩ r h
 unfold K7t at h
 refine Q75.bodyO K20 (fn := Tryz.f90) (code := B90) (by kernel_rfl) (by kernel_rfl) (by kernel_rfl) (nt := 37) (by kernel_rfl) (by kernel_rfl) (T := [(0,.ra 1000 0),(1,I n1)]) (O := [(1000,K1d c0)]) (by kernel_rfl) (by kernel_rfl) (fun c hc => ?_)
 refine K7e hc 1 [(0,.ra 1000 0),(1,I n1)] ?_
 refine sN ?_
 refine K7e hc 2 [(0,.ra 1000 0),(1,I n1),(10,.bool (decide (n1 ≤ 0)))] ?_
 refine ic h (fun a0 h => ?_) fun a0 h => ?_
 ·refine K7e hc 1 [(4,I 0)] ?_
  refine rt ?_
  obtain rfl := os h
  exact Qdp.ret (fl := [true]) (by kernel_rfl)
 refine sk ?_
 refine sN ?_
 refine K7e hc 2 [(0,.ra 1000 0),(1,I n1),(12,.bool (decide (n1 ≤ 256)))] ?_
 refine ic h (fun a1 h => ?_) fun a1 h => ?_
 ·obtain ⟨⟨a2,a3⟩,a4,h⟩ := Qds h
  obtain ⟨_,a5,h⟩ := Qds h
  refine rs hc none [oN,some (.call (I a2) [.optr [.sl (List.map U8 a3.fb),I a3.fi,I a3.fh]] 1),oN,oN,oN] [(4,I (Int.tmod a2 n1))] [(1000,K1d a3)] (ac (K7s _ _ a4) K24 (Qdu a5) tv) ?_
  refine rt ?_
  obtain rfl := os h
  exact Qdp.ret (fl := [true]) (by kernel_rfl)
 refine sk ?_
 obtain ⟨⟨a6,a7⟩,a8,h⟩ := Qds h
 refine rs hc none [oN,some (.call (I a6) [.optr [.sl (List.map U8 a7.fb),I a7.fi,I a7.fh]] 1),oN] [(0,.ra 1000 0),(1,I n1),(5,I a6)] [(1000,K1d a7)] (ab (K7s _ _ a8) K24 tv) ?_
 obtain ⟨⟨a9,b1⟩,b2,h⟩ := Qds h
 refine rs hc none [oN,some (.call (I a9) [.optr [.sl (List.map U8 b1.fb),I b1.fi,I b1.fh]] 1),oN] [(0,.ra 1000 0),(1,I n1),(5,I a6),(6,I a9)] [(1000,K1d b1)] (ab (K7s _ _ b2) K24 tv) ?_
 obtain ⟨⟨b3,b4⟩,b5,h⟩ := Qds h
 refine rs hc none [oN,some (.call (I b3) [.optr [.sl (List.map U8 b4.fb),I b4.fi,I b4.fh]] 1),oN] [(0,.ra 1000 0),(1,I n1),(5,I a6),(6,I a9),(7,I b3)] [(1000,K1d b4)] (ab (K7s _ _ b5) K24 tv) ?_
 obtain ⟨⟨b6,b7⟩,b8,h⟩ := Qds h
 refine rs hc none [oN,some (.call (I b6) [.optr [.sl (List.map U8 b7.fb),I b7.fi,I b7.fh]] 1),oN] [(1,I n1),(5,I a6),(6,I a9),(7,I b3),(8,I b6)] [(1000,K1d b7)] (ab (K7s _ _ b8) K24 tv) ?_
 obtain ⟨_,b9,h⟩ := Qds h
 refine rss hc none [oN,oN,oN,oN,oN,oN,oN,oN,oN,oN,oN,oN,oN] [(4,I (Int.tmod (wr ((wr ((wr ((wr (a6 * 16777216)) + (wr (a9 * 65536)))) + (wr (b3 * 256)))) + b6)) n1))] (ai (Qdu b9) tv) ?_
 refine rt ?_
 obtain rfl := os h
 exact Qdp.ret (fl := [true]) (by kernel_rfl)
def K7w (p : Int × Int × Int) : Option (Bool) :=
 match p with
 | (n0,low1,high2) =>
  ((
  if (decide (n0 ≥ low1)) = true then
  some ((decide (n0 ≤ high2)))
  else
  some (false)
  ) : Option (Bool)) >>= fun a0 =>
  some a0
def K7x (p : Int × Int × Int) (r : Bool) : Prop :=
 match p with
 | (n0,low1,high2) => Q75 Tryz.prog 119 [I n0,I low1,I high2] (.bool r) []
theorem K7y : ∀ p r,K7w p = some r → K7x p r := by
 rintro ⟨n0,low1,high2⟩ r h
 unfold K7w at h
 refine b0 Tryz.f119 K26 15 [(0,I n0),(1,I low1),(2,I high2)] fun c hc => ?_
 refine rs0 hc 1 [(0,I n0),(1,I low1),(2,I high2)] [] ?_
 refine sN ?_
 obtain ⟨a0,a1,h⟩ := Qds h
 refine Wp.into (x := .normal) (mkS [(6,.bool a0)] []) ?_ ?_
 ·replace h := a1
  rcases is h with ⟨a2,h⟩ | ⟨a2,h⟩
  ·refine rg hc none [oN,oN,oN,oN,oN,oN,oN,oT,oN] [(6,.bool (decide (n0 ≤ high2)))] [] (ar 4 a2 tv) ?_
   obtain rfl := os h
   exact Qde.mk
  refine rg hc none [oN,oN,oN,oN,o_,o_,o_,oF,oN] [(6,.bool false)] [] (ar 3 (neT a2) (ai a2 tv)) ?_
  obtain rfl := os h
  exact Qde.mk
 clear a1
 refine rt ?_
 obtain rfl := os h
 exact rq [true]
def K7z (p : Int × Int) : Option (Int) :=
 match p with
 | (a0,b1) =>
  if (decide (a0 < b1)) = true then
  some a0
  else
  some b1
def K80 (p : Int × Int) (r : Int) : Prop :=
 match p with
 | (a0,b1) => Q75 Tryz.prog 123 [I a0,I b1] (I r) []
theorem K81 : ∀ p r,K7z p = some r → K80 p r := by
 rintro ⟨a0,b1⟩ r h
 unfold K7z at h
 refine b0 Tryz.f123 K28 10 [(0,I a0),(1,I b1)] fun c hc => ?_
 refine rs0 hc 1 [(0,I a0),(1,I b1)] [] ?_
 refine sN ?_
 refine rs0 hc 3 [(0,I a0),(1,I b1),(7,.bool (decide (a0 < b1)))] [] ?_
 refine ic h (fun a1 h => ?_) fun a1 h => ?_
 ·refine rs0 hc 2 [(4,I a0)] [] ?_
  refine rt ?_
  obtain rfl := os h
  exact rq [true]
 refine sk ?_
 refine rs0 hc 2 [(4,I b1)] [] ?_
 refine rt ?_
 obtain rfl := os h
 exact rq [true]
def K82 (c : Ctx) (n0 : Int) (bound1 : Bool) (a0 : Int) : (List Int) × (List Int) × (List Bool) → Exit → Q0a → Prop
 | (a1,a2,a3) => Qde c (.exit 2) (mkS [(1,.bool bound1),(4,.ra 1 0),(5,.ra 2 0),(6,I (wr (n0 + 1))),(7,I a0)] [(1,.box [I 0,.nils,.nils,.nils]),(2,.box [I (wr (n0 + 2)),.rs 27,.rs 28,.rs 29]),(27,rI a1),(28,rI a2),(29,.arr (List.map AV.bool a3))])
def K83 (p : Int × Bool × Int × (List Int) × (List Int) × (List Bool) × Int) : Option ((List Int) × (List Int) × (List Bool)) :=
 match p with
 | (n0,bound1,a0,a1,a2,a3,a4) =>
  if (decide (a4 ≤ (wr (n0 + 1)))) = true then
  (K7z ((wr (a0 + a4)),(wr (n0 + 1)))) >>= fun a5 =>
  (K7z ((wr (a0 * a4)),(wr (n0 + 1)))) >>= fun a6 =>
  (Qe5 (a1.length + [a5].length) 8) >>= fun _ =>
  (Qe5 (a2.length + [a6].length) 8) >>= fun _ =>
  ((
  if (a0 == a4) = true then
  (Qe5 (a3.length + [true].length) 1) >>= fun _ =>
  some ((a3 ++ [true]))
  else
  if (a4 == (wr (n0 + 1))) = true then
  (Qe5 (a3.length + [true].length) 1) >>= fun _ =>
  some ((a3 ++ [true]))
  else
  if bound1 = true then
  (Qe5 (a3.length + [(decide (a0 ≤ a4))].length) 1) >>= fun _ =>
  some ((a3 ++ [(decide (a0 ≤ a4))]))
  else
  (Qe5 (a3.length + [false].length) 1) >>= fun _ =>
  some ((a3 ++ [false]))
  ) : Option ((List Bool))) >>= fun a7 =>
  K83 (n0,bound1,a0,(a1 ++ [a5]),(a2 ++ [a6]),a7,(wr (a4 + 1)))
  else
  some ((a1,a2,a3))
 partial_fixpoint
def K84 (p : Int × Bool × Int × (List Int) × (List Int) × (List Bool) × Int) (fl : (List Int) × (List Int) × (List Bool)) : Prop :=
 match p with
 | (n0,bound1,a0,a1,a2,a3,a4) => ∀ c : Ctx,c.nt = 74 → WpL Tryz.prog c (cl (cl (cr (cl (cl (cr (cl (cl (cr (cl (cr (cr (cr (cr K2a)))))))))))))) (K82 c n0 bound1 a0 fl) (mkS [(1,.bool bound1),(4,.ra 1 0),(5,.ra 2 0),(6,I (wr (n0 + 1))),(7,I a0),(8,I a4)] [(1,.box [I 0,.nils,.nils,.nils]),(2,.box [I (wr (n0 + 2)),.rs 27,.rs 28,.rs 29]),(27,rI a1),(28,rI a2),(29,.arr (List.map AV.bool a3))])
theorem K85 : ∀ p r,K83 p = some r → K84 p r := by
 refine K83.partial_correctness K84 ?_
 rintro spec_l1Numbers_l0_f spec_l1Numbers_l0_ih ⟨n0,bound1,a0,a1,a2,a3,a4⟩ r h
 intro c hc
 refine WpL.step ?_
 refine sN ?_
 refine K7e hc 3 [(1,.bool bound1),(4,.ra 1 0),(5,.ra 2 0),(6,I (wr (n0 + 1))),(7,I a0),(8,I a4),(27,.bool (decide (a4 ≤ (wr (n0 + 1)))))] ?_
 refine ic h (fun a5 h => ?_) fun a5 h => ?_
 ·refine sk ?_
  refine sN ?_
  refine bk 3 ?_
  obtain ⟨a6,a7,h⟩ := Qds h
  refine rss hc none [oN,oN,oN,oN,oc (I a6),oN] [(1,.bool bound1),(4,.ra 1 0),(5,.ra 2 0),(6,I (wr (n0 + 1))),(7,I a0),(8,I a4),(9,I a6)] (cq (K81 _ _ a7) K29 tv) ?_
  obtain ⟨a8,a9,h⟩ := Qds h
  refine rss hc none [oN,oN,oN,oN,oc (I a8),oN] [(1,.bool bound1),(4,.ra 1 0),(5,.ra 2 0),(6,I (wr (n0 + 1))),(7,I a0),(8,I a4),(9,I a6),(10,I a8)] (cq (K81 _ _ a9) K29 tv) ?_
  obtain ⟨_,b1,h⟩ := Qds h
  refine rs hc none [oN,oN,oN,some (.mk 48 true),some (.eqv (.mk 49 true) ⟨[(44,.rs 49)],[(49,some (rI (a1 ++ [a6]))),(27,none),(48,none)],[49]⟩),oN,oN] [(1,.bool bound1),(4,.ra 1 0),(5,.ra 2 0),(6,I (wr (n0 + 1))),(7,I a0),(8,I a4),(10,I a8)] [(1,.box [I 0,.nils,.nils,.nils]),(2,.box [I (wr (n0 + 2)),.rs 49,.rs 28,.rs 29]),(28,rI a2),(29,.arr (List.map AV.bool a3)),(49,rI (a1 ++ [a6]))] (ab (congrArg (fun z => (⟨[(44,.rs 49)],[(49,some (.arr z)),(27,none),(48,none)],[49]⟩ : Wr)) ((List.map_append).symm : (List.map I a1) ++ (List.map I [a6]) = List.map I (a1 ++ [a6]))) (Qe6 (enc1 := I) (enc2 := I) (e1 := a1) (e2 := [a6]) (sz := 1) Qef Qef b1) tv) ?_
  obtain ⟨_,b2,h⟩ := Qds h
  refine rs hc none [oN,oN,oN,some (.mk 50 true),some (.eqv (.mk 51 true) ⟨[(50,.rs 51)],[(51,some (rI (a2 ++ [a8]))),(28,none),(50,none)],[51]⟩),oN,oN] [(1,.bool bound1),(4,.ra 1 0),(5,.ra 2 0),(6,I (wr (n0 + 1))),(7,I a0),(8,I a4)] [(1,.box [I 0,.nils,.nils,.nils]),(2,.box [I (wr (n0 + 2)),.rs 49,.rs 51,.rs 29]),(29,.arr (List.map AV.bool a3)),(49,rI (a1 ++ [a6])),(51,rI (a2 ++ [a8]))] (ab (congrArg (fun z => (⟨[(50,.rs 51)],[(51,some (.arr z)),(28,none),(50,none)],[51]⟩ : Wr)) ((List.map_append).symm : (List.map I a2) ++ (List.map I [a8]) = List.map I (a2 ++ [a8]))) (Qe6 (enc1 := I) (enc2 := I) (e1 := a2) (e2 := [a8]) (sz := 1) Qef Qef b2) tv) ?_
  obtain ⟨b3,b4,h⟩ := Qds h
  refine Wp.into (x := .normal) (mkS [(1,.bool bound1),(4,.ra 1 0),(5,.ra 2 0),(6,I (wr (n0 + 1))),(7,I a0),(8,I a4)] [(1,.box [I 0,.nils,.nils,.nils]),(2,.box [I (wr (n0 + 2)),.rs 49,.rs 51,.rs 53]),(49,rI (a1 ++ [a6])),(51,rI (a2 ++ [a8])),(53,.arr (List.map AV.bool b3))]) ?_ ?_
  ·replace h := b4
   rcases is h with ⟨b5,h⟩ | ⟨b5,h⟩
   ·obtain ⟨_,b6,h⟩ := Qds h
    refine rg hc none [oN,oN,oN,oN,oN,oN,o_,o_,o_,oT,oN,o_,o_,o_,o_,o_,o_,oT,some (.mk 52 true),some (.eqv (.mk 53 true) ⟨[(71,.rs 53)],[(53,some (.arr (List.map AV.bool (a3 ++ [true])))),(29,none),(52,none)],[53]⟩),oN,oN] [(1,.bool bound1),(4,.ra 1 0),(5,.ra 2 0),(6,I (wr (n0 + 1))),(7,I a0),(8,I a4)] [(1,.box [I 0,.nils,.nils,.nils]),(2,.box [I (wr (n0 + 2)),.rs 49,.rs 51,.rs 53]),(49,rI (a1 ++ [a6])),(51,rI (a2 ++ [a8])),(53,.arr (List.map AV.bool (a3 ++ [true])))] (ar 3 (neF b5) (ai b5 (ar 3 nf (ac tt (congrArg (fun z => (⟨[(71,.rs 53)],[(53,some (.arr z)),(29,none),(52,none)],[53]⟩ : Wr)) ((List.map_append).symm : (List.map AV.bool a3) ++ (List.map AV.bool [true]) = List.map AV.bool (a3 ++ [true]))) (Qe6 (enc1 := AV.bool) (enc2 := AV.bool) (e1 := a3) (e2 := [true]) (sz := 1) Qeh Qeh b6) tv)))) ?_
    obtain rfl := os h
    exact Qde.mk
   rcases is h with ⟨b7,h⟩ | ⟨b7,h⟩
   ·obtain ⟨_,b6,h⟩ := Qds h
    refine rg hc none [oN,oN,oN,oN,oN,oN,oN,oN,oN,oF,oN,o_,o_,o_,o_,o_,o_,oT,some (.mk 52 true),some (.eqv (.mk 53 true) ⟨[(71,.rs 53)],[(53,some (.arr (List.map AV.bool (a3 ++ [true])))),(29,none),(52,none)],[53]⟩),oN,oN] [(1,.bool bound1),(4,.ra 1 0),(5,.ra 2 0),(6,I (wr (n0 + 1))),(7,I a0),(8,I a4)] [(1,.box [I 0,.nils,.nils,.nils]),(2,.box [I (wr (n0 + 2)),.rs 49,.rs 51,.rs 53]),(49,rI (a1 ++ [a6])),(51,rI (a2 ++ [a8])),(53,.arr (List.map AV.bool (a3 ++ [true])))] (ar 4 b5 (ar 3 (neF b7) (ac b7 (congrArg (fun z => (⟨[(71,.rs 53)],[(53,some (.arr z)),(29,none),(52,none)],[53]⟩ : Wr)) ((List.map_append).symm : (List.map AV.bool a3) ++ (List.map AV.bool [true]) = List.map AV.bool (a3 ++ [true]))) (Qe6 (enc1 := AV.bool) (enc2 := AV.bool) (e1 := a3) (e2 := [true]) (sz := 1) Qeh Qeh b6) tv))) ?_
    obtain rfl := os h
    exact Qde.mk
   rcases is h with ⟨b8,h⟩ | ⟨b8,h⟩
   ·obtain ⟨_,b6,h⟩ := Qds h
    refine rg hc none [oN,oN,oN,oN,oN,oN,oN,oN,oN,oF,oN,oN,oN,oN,oN,oN,oT,oF,some (.mk 52 true),some (.eqv (.mk 53 true) ⟨[(71,.rs 53)],[(53,some (.arr (List.map AV.bool (a3 ++ [(decide (a0 ≤ a4))])))),(29,none),(52,none)],[53]⟩),oN,oN] [(1,.bool bound1),(4,.ra 1 0),(5,.ra 2 0),(6,I (wr (n0 + 1))),(7,I a0),(8,I a4)] [(1,.box [I 0,.nils,.nils,.nils]),(2,.box [I (wr (n0 + 2)),.rs 49,.rs 51,.rs 53]),(49,rI (a1 ++ [a6])),(51,rI (a2 ++ [a8])),(53,.arr (List.map AV.bool (a3 ++ [(decide (a0 ≤ a4))])))] (ar 4 b5 (ar 2 b7 (ar 3 b8 (ad b7 b8 b7 (congrArg (fun z => (⟨[(71,.rs 53)],[(53,some (.arr z)),(29,none),(52,none)],[53]⟩ : Wr)) ((List.map_append).symm : (List.map AV.bool a3) ++ (List.map AV.bool [(decide (a0 ≤ a4))]) = List.map AV.bool (a3 ++ [(decide (a0 ≤ a4))]))) (ai (Qe6 (enc1 := AV.bool) (enc2 := AV.bool) (e1 := a3) (e2 := [(decide (a0 ≤ a4))]) (sz := 1) Qeh Qeh b6) tv))))) ?_
    obtain rfl := os h
    exact Qde.mk
   obtain ⟨_,b6,h⟩ := Qds h
   refine rg hc none [oN,oN,oN,oN,oN,oN,oN,oN,oN,oF,oN,oN,oN,o_,o_,o_,oF,oF,some (.mk 52 true),some (.eqv (.mk 53 true) ⟨[(71,.rs 53)],[(53,some (.arr (List.map AV.bool (a3 ++ [false])))),(29,none),(52,none)],[53]⟩),oN,oN] [(1,.bool bound1),(4,.ra 1 0),(5,.ra 2 0),(6,I (wr (n0 + 1))),(7,I a0),(8,I a4)] [(1,.box [I 0,.nils,.nils,.nils]),(2,.box [I (wr (n0 + 2)),.rs 49,.rs 51,.rs 53]),(49,rI (a1 ++ [a6])),(51,rI (a2 ++ [a8])),(53,.arr (List.map AV.bool (a3 ++ [false])))] (ar 4 b5 (ar 2 b7 (ar 3 (neT b8) (ad b7 b8 b7 (congrArg (fun z => (⟨[(71,.rs 53)],[(53,some (.arr z)),(29,none),(52,none)],[53]⟩ : Wr)) ((List.map_append).symm : (List.map AV.bool a3) ++ (List.map AV.bool [false]) = List.map AV.bool (a3 ++ [false]))) (ai (Qe6 (enc1 := AV.bool) (enc2 := AV.bool) (e1 := a3) (e2 := [false]) (sz := 1) Qeh Qeh b6) tv))))) ?_
   obtain rfl := os h
   exact Qde.mk
  clear b4
  refine K7d hc 3 [(1,.bool bound1),(4,.ra 1 0),(5,.ra 2 0),(6,I (wr (n0 + 1))),(7,I a0),(8,I (wr (a4 + 1)))] ?_
  refine Qda ?_
  exact WpL.view (fun a w hv => SRx.renL [(27,49),(28,51),(29,53)] hv (by kernel_rfl) (by kernel_rfl) (by kernel_rfl)) (spec_l1Numbers_l0_ih _ _ h c hc)
 refine xt 2 ?_
 refine Qd4 ?_
 refine Qdb ?_
 obtain ⟨rfl,hq0⟩ := Prod.mk.inj (Option.some.inj h)
 obtain ⟨rfl,rfl⟩ := Prod.mk.inj (hq0)
 exact iv []
def K86 (c : Ctx) (n0 : Int) : (List Int) × (List Int) × (List Bool) → Exit → Q0a → Prop
 | (a0,a1,a2) => Qde c (.exit 0) (mkS [(4,.ra 1 0),(5,.ra 2 0)] [(1,.box [I 0,.nils,.nils,.nils]),(2,.box [I (wr (n0 + 2)),.rs 27,.rs 28,.rs 29]),(27,rI a0),(28,rI a1),(29,.arr (List.map AV.bool a2))])
def K87 (p : Int × Bool × (List Int) × (List Int) × (List Bool) × Int) : Option ((List Int) × (List Int) × (List Bool)) :=
 match p with
 | (n0,bound1,a0,a1,a2,a3) =>
  if (decide (a3 ≤ (wr (n0 + 1)))) = true then
  (K83 (n0,bound1,a3,a0,a1,a2,0)) >>= fun (a4,a5,a6) =>
  K87 (n0,bound1,a4,a5,a6,(wr (a3 + 1)))
  else
  some ((a0,a1,a2))
 partial_fixpoint
def K88 (p : Int × Bool × (List Int) × (List Int) × (List Bool) × Int) (fl : (List Int) × (List Int) × (List Bool)) : Prop :=
 match p with
 | (n0,bound1,a0,a1,a2,a3) => ∀ c : Ctx,c.nt = 74 → WpL Tryz.prog c (cl (cl (cr (cl (cr (cr (cr (cr K2a)))))))) (K86 c n0 fl) (mkS [(1,.bool bound1),(4,.ra 1 0),(5,.ra 2 0),(6,I (wr (n0 + 1))),(7,I a3)] [(1,.box [I 0,.nils,.nils,.nils]),(2,.box [I (wr (n0 + 2)),.rs 27,.rs 28,.rs 29]),(27,rI a0),(28,rI a1),(29,.arr (List.map AV.bool a2))])
theorem K89 : ∀ p r,K87 p = some r → K88 p r := by
 refine K87.partial_correctness K88 ?_
 rintro spec_l1Numbers_l1_f spec_l1Numbers_l1_ih ⟨n0,bound1,a0,a1,a2,a3⟩ r h
 intro c hc
 refine WpL.step ?_
 refine sN ?_
 refine K7e hc 3 [(1,.bool bound1),(4,.ra 1 0),(5,.ra 2 0),(6,I (wr (n0 + 1))),(7,I a3),(22,.bool (decide (a3 ≤ (wr (n0 + 1)))))] ?_
 refine ic h (fun a4 h => ?_) fun a4 h => ?_
 ·refine sk ?_
  refine sN ?_
  refine bk 1 ?_
  refine K7e hc 1 [(1,.bool bound1),(4,.ra 1 0),(5,.ra 2 0),(6,I (wr (n0 + 1))),(7,I a3),(8,I 0)] ?_
  refine bk 2 ?_
  obtain ⟨⟨a5,a6,a7⟩,a8,h⟩ := Qds h
  have hL := K85 _ _ a8 c hc
  refine lp ?_
  refine WpL.into (e := (.exit 2)) (mkS [(1,.bool bound1),(4,.ra 1 0),(5,.ra 2 0),(6,I (wr (n0 + 1))),(7,I a3)] [(1,.box [I 0,.nils,.nils,.nils]),(2,.box [I (wr (n0 + 2)),.rs 27,.rs 28,.rs 29]),(27,rI a5),(28,rI a6),(29,.arr (List.map AV.bool a7))]) hL ?_
  refine Qd6 ?_
  refine K7d hc 3 [(1,.bool bound1),(4,.ra 1 0),(5,.ra 2 0),(6,I (wr (n0 + 1))),(7,I (wr (a3 + 1)))] ?_
  refine Qda ?_
  exact (spec_l1Numbers_l1_ih _ _ h c hc)
 refine xt 0 ?_
 refine Qd4 ?_
 refine Qdb ?_
 obtain ⟨rfl,hq0⟩ := Prod.mk.inj (Option.some.inj h)
 obtain ⟨rfl,rfl⟩ := Prod.mk.inj (hq0)
 exact iv []
def K8a (p : Int × Bool) : Option (K00) :=
 match p with
 | (n0,bound1) =>
  (K7w (n0,1,14)) >>= fun a0 =>
  if a0 = true then
  (K87 (n0,bound1,[],[],[],0)) >>= fun (a1,a2,a3) =>
  some (K00.mk (wr (n0 + 2)) a1 a2 a3)
  else
  some (K00.mk 0 [] [] [])
def K8b (p : Int × Bool) (r : K00) : Prop :=
 match p with
 | (n0,bound1) => Q75 Tryz.prog 121 [I n0,.bool bound1] (K1f r) []
theorem K8c : ∀ p r,K8a p = some r → K8b p r := by
 rintro ⟨n0,bound1⟩ r h
 unfold K8a at h
 refine b0 Tryz.f121 K2a 74 [(0,I n0),(1,.bool bound1)] fun c hc => ?_
 refine rs hc none [some (.new 1)] [(0,I n0),(1,.bool bound1),(4,.ra 1 0)] [(1,.box [I 0,.nils,.nils,.nils])] tv ?_
 refine sN ?_
 obtain ⟨a0,a1,h⟩ := Qds h
 refine rss hc none [oN,oc (.bool a0),oN] [(0,I n0),(1,.bool bound1),(4,.ra 1 0),(13,.bool (!a0))] (cq (K7y _ _ a1) K27 tv) ?_
 rcases is h with ⟨a2,h⟩ | ⟨a2,h⟩
 ·refine cF (!a0) (nF a2) ?_
  refine sk ?_
  refine rs hc none [oN,oN,oN,some (.new 2),oN] [(0,I n0),(1,.bool bound1),(4,.ra 1 0),(5,.ra 2 0)] [(1,.box [I 0,.nils,.nils,.nils]),(2,.box [I (wr (n0 + 2)),.nils,.nils,.nils])] tv ?_
  refine K7e hc 3 [(1,.bool bound1),(4,.ra 1 0),(5,.ra 2 0),(6,I (wr (n0 + 1)))] ?_
  refine sN ?_
  refine K7e hc 1 [(1,.bool bound1),(4,.ra 1 0),(5,.ra 2 0),(6,I (wr (n0 + 1))),(7,I 0)] ?_
  refine bk 0 ?_
  obtain ⟨⟨a3,a4,a5⟩,a6,h⟩ := Qds h
  have hL := K89 _ _ a6 c hc
  refine Wp.loopN (by kernel_rfl) (WpL.view (fun a w hv => SRx.renL [(27,54),(28,55),(29,56)] (SRx.nilBL 2 3 56 [I (wr (n0 + 2)),.rs 54,.rs 55,.nils] (SRx.nilBL 2 2 55 [I (wr (n0 + 2)),.rs 54,.nils,.nils] (SRx.nilBL 2 1 54 [I (wr (n0 + 2)),.nils,.nils,.nils] hv (by kernel_rfl) (by kernel_rfl) (by kernel_rfl)) (by kernel_rfl) (by kernel_rfl) (by kernel_rfl)) (by kernel_rfl) (by kernel_rfl) (by kernel_rfl)) (by kernel_rfl) (by kernel_rfl) (by kernel_rfl)) (?_ : WpL _ c _ _ (mkS [(1,.bool bound1),(4,.ra 1 0),(5,.ra 2 0),(6,I (wr (n0 + 1))),(7,I 0)] [(1,.box [I 0,.nils,.nils,.nils]),(2,.box [I (wr (n0 + 2)),.rs 27,.rs 28,.rs 29]),(27,.arr (List.map I [])),(28,.arr (List.map I [])),(29,.arr (List.map AV.bool []))])))
  refine WpL.into (e := (.exit 0)) (mkS [(4,.ra 1 0),(5,.ra 2 0)] [(1,.box [I 0,.nils,.nils,.nils]),(2,.box [I (wr (n0 + 2)),.rs 27,.rs 28,.rs 29]),(27,rI a3),(28,rI a4),(29,.arr (List.map AV.bool a5))]) hL ?_
  refine Qd6 ?_
  refine rs0 hc 2 [(4,.ra 1 0)] [(1,.box [I (wr (n0 + 2)),.rs 27,.rs 28,.rs 29]),(27,rI a3),(28,rI a4),(29,.arr (List.map AV.bool a5))] ?_
  refine rt ?_
  obtain rfl := os h
  exact rq [true]
 refine cT (!a0) (nT a2) ?_
 refine K7e hc 2 [(4,.ra 1 0)] ?_
 refine rt ?_
 obtain rfl := os h
 exact rq [true]
def K8d (n0 : Int) : Option (K00) :=
 (K8a (n0,true)) >>= fun a0 =>
 some a0
def K8e (n0 : Int) (r : K00) : Prop :=
 Q75 Tryz.prog 152 [I n0] (K1f r) []
theorem K8f : ∀ p r,K8d p = some r → K8e p r := by
 rintro n0 r h
 unfold K8d at h
 refine b0 Tryz.f152 K2c 5 [(0,I n0)] fun c hc => ?_
 refine rs hc none [some (.new 1)] [(0,I n0),(2,.ra 1 0)] [(1,.box [I 0,.nils,.nils,.nils])] tv ?_
 obtain ⟨a0,a1,h⟩ := Qds h
 refine rs hc none [oN,some (.call (K1f a0) [] 2),oN] [(2,.ra 1 0)] [(1,.box [I a0.fSize,.rs 2,.rs 3,.rs 4]),(2,rI a0.fPlus),(3,rI a0.fTimes),(4,.arr (List.map AV.bool a0.fBelow))] (cq (K8c _ _ a1) K2b tv) ?_
 refine rt ?_
 obtain rfl := os h
 exact rq [true]
def K8g (n0 : Int) : Option (K00) :=
 (K8a (n0,false)) >>= fun a0 =>
 some a0
def K8h (n0 : Int) (r : K00) : Prop :=
 Q75 Tryz.prog 47 [I n0] (K1f r) []
theorem K8i : ∀ p r,K8g p = some r → K8h p r := by
 rintro n0 r h
 unfold K8g at h
 refine b0 Tryz.f47 B47 5 [(0,I n0)] fun c hc => ?_
 refine rs hc none [some (.new 1)] [(0,I n0),(2,.ra 1 0)] [(1,.box [I 0,.nils,.nils,.nils])] tv ?_
 obtain ⟨a0,a1,h⟩ := Qds h
 refine rs hc none [oN,some (.call (K1f a0) [] 2),oN] [(2,.ra 1 0)] [(1,.box [I a0.fSize,.rs 2,.rs 3,.rs 4]),(2,rI a0.fPlus),(3,rI a0.fTimes),(4,.arr (List.map AV.bool a0.fBelow))] (cq (K8c _ _ a1) K2b tv) ?_
 refine rt ?_
 obtain rfl := os h
 exact rq [true]
def K8j (p : Int × Int) : Option (Int) :=
 match p with
 | (a0,b1) =>
  if (decide (a0 > b1)) = true then
  some a0
  else
  some b1
def K8k (p : Int × Int) (r : Int) : Prop :=
 match p with
 | (a0,b1) => Q75 Tryz.prog 100 [I a0,I b1] (I r) []
theorem K8l : ∀ p r,K8j p = some r → K8k p r := by
 rintro ⟨a0,b1⟩ r h
 unfold K8j at h
 refine b0 Tryz.f100 K2f 10 [(0,I a0),(1,I b1)] fun c hc => ?_
 refine rs0 hc 1 [(0,I a0),(1,I b1)] [] ?_
 refine sN ?_
 refine rs0 hc 3 [(0,I a0),(1,I b1),(7,.bool (decide (a0 > b1)))] [] ?_
 refine ic h (fun a1 h => ?_) fun a1 h => ?_
 ·refine rs0 hc 2 [(4,I a0)] [] ?_
  refine rt ?_
  obtain rfl := os h
  exact rq [true]
 refine sk ?_
 refine rs0 hc 2 [(4,I b1)] [] ?_
 refine rt ?_
 obtain rfl := os h
 exact rq [true]
def K8m (c : Ctx) (n0 : Int) (a0 : Int) : (List Int) × (List Int) × (List Bool) → Exit → Q0a → Prop
 | (a1,a2,a3) => Qde c (.exit 2) (mkS [(0,I n0),(2,.ra 1 0),(3,.ra 2 0),(4,I a0)] [(1,.box [I 0,.nils,.nils,.nils]),(2,.box [I (wr (n0 + 1)),.rs 27,.rs 28,.rs 29]),(27,rI a1),(28,rI a2),(29,.arr (List.map AV.bool a3))])
def K8n (p : Int × Int × (List Int) × (List Int) × (List Bool) × Int) : Option ((List Int) × (List Int) × (List Bool)) :=
 match p with
 | (n0,a0,a1,a2,a3,a4) =>
  if (decide (a4 ≤ n0)) = true then
  (chk ((wr (n0 + 1)) ≠ 0)) >>= fun _ =>
  (chk ((wr (n0 + 1)) ≠ 0)) >>= fun _ =>
  (K8j ((Int.tmod (wr ((wr (n0 + 1)) - a0)) (wr (n0 + 1))),(Int.tmod (wr ((wr (n0 + 1)) - a4)) (wr (n0 + 1))))) >>= fun a5 =>
  (chk ((wr (n0 + 1)) ≠ 0)) >>= fun _ =>
  (K7z ((Int.tmod (wr ((wr (n0 + 1)) - a0)) (wr (n0 + 1))),(Int.tmod (wr ((wr (n0 + 1)) - a4)) (wr (n0 + 1))))) >>= fun a6 =>
  (chk ((wr (n0 + 1)) ≠ 0)) >>= fun _ =>
  (Qe5 (a1.length + [(Int.tmod (wr ((wr (n0 + 1)) - a5)) (wr (n0 + 1)))].length) 8) >>= fun _ =>
  (Qe5 (a2.length + [(Int.tmod (wr ((wr (n0 + 1)) - a6)) (wr (n0 + 1)))].length) 8) >>= fun _ =>
  (Qe5 (a3.length + [(decide ((Int.tmod (wr ((wr (n0 + 1)) - a0)) (wr (n0 + 1))) ≤ (Int.tmod (wr ((wr (n0 + 1)) - a4)) (wr (n0 + 1)))))].length) 1) >>= fun _ =>
  K8n (n0,a0,(a1 ++ [(Int.tmod (wr ((wr (n0 + 1)) - a5)) (wr (n0 + 1)))]),(a2 ++ [(Int.tmod (wr ((wr (n0 + 1)) - a6)) (wr (n0 + 1)))]),(a3 ++ [(decide ((Int.tmod (wr ((wr (n0 + 1)) - a0)) (wr (n0 + 1))) ≤ (Int.tmod (wr ((wr (n0 + 1)) - a4)) (wr (n0 + 1)))))]),(wr (a4 + 1)))
  else
  some ((a1,a2,a3))
 partial_fixpoint
def K8o (p : Int × Int × (List Int) × (List Int) × (List Bool) × Int) (fl : (List Int) × (List Int) × (List Bool)) : Prop :=
 match p with
 | (n0,a0,a1,a2,a3,a4) => ∀ c : Ctx,c.nt = 80 → WpL Tryz.prog c (cl (cl (cr (cl (cl (cr (cl (cl (cr (cl (cr (cr (cr K2h))))))))))))) (K8m c n0 a0 fl) (mkS [(0,I n0),(2,.ra 1 0),(3,.ra 2 0),(4,I a0),(5,I a4)] [(1,.box [I 0,.nils,.nils,.nils]),(2,.box [I (wr (n0 + 1)),.rs 27,.rs 28,.rs 29]),(27,rI a1),(28,rI a2),(29,.arr (List.map AV.bool a3))])
theorem K8p : ∀ p r,K8n p = some r → K8o p r := by
 refine K8n.partial_correctness K8o ?_
 rintro spec_LevelSystem_l0_f spec_LevelSystem_l0_ih ⟨n0,a0,a1,a2,a3,a4⟩ r h
 intro c hc
 refine WpL.step ?_
 refine sN ?_
 refine K7e hc 3 [(0,I n0),(2,.ra 1 0),(3,.ra 2 0),(4,I a0),(5,I a4),(24,.bool (decide (a4 ≤ n0)))] ?_
 refine ic h (fun a5 h => ?_) fun a5 h => ?_
 ·refine sk ?_
  refine sN ?_
  refine bk 3 ?_
  obtain ⟨_,a6,h⟩ := Qds h
  refine rss hc none [oN,oN,oN,oN,oN,oN,oN,oN] [(0,I n0),(2,.ra 1 0),(3,.ra 2 0),(4,I a0),(5,I a4),(6,I (Int.tmod (wr ((wr (n0 + 1)) - a0)) (wr (n0 + 1))))] (ai (Qdu a6) tv) ?_
  obtain ⟨_,a7,h⟩ := Qds h
  refine rss hc none [oN,oN,oN,oN,oN,oN,oN,oN] [(0,I n0),(2,.ra 1 0),(3,.ra 2 0),(4,I a0),(5,I a4),(6,I (Int.tmod (wr ((wr (n0 + 1)) - a0)) (wr (n0 + 1)))),(7,I (Int.tmod (wr ((wr (n0 + 1)) - a4)) (wr (n0 + 1))))] (ai (Qdu a7) tv) ?_
  obtain ⟨a8,a9,_,b1,h⟩ := bq2 h
  refine rss hc none [oN,oN,oN,oN,oc (I a8),oN,oN,oN,oN,oN] [(0,I n0),(2,.ra 1 0),(3,.ra 2 0),(4,I a0),(5,I a4),(6,I (Int.tmod (wr ((wr (n0 + 1)) - a0)) (wr (n0 + 1)))),(7,I (Int.tmod (wr ((wr (n0 + 1)) - a4)) (wr (n0 + 1)))),(8,I (Int.tmod (wr ((wr (n0 + 1)) - a8)) (wr (n0 + 1))))] (cq (K8l _ _ a9) K2g (ai (Qdu b1) tv)) ?_
  obtain ⟨b2,b3,_,b4,h⟩ := bq2 h
  refine rss hc none [oN,oN,oN,oN,oc (I b2),oN,oN,oN,oN,oN] [(0,I n0),(2,.ra 1 0),(3,.ra 2 0),(4,I a0),(5,I a4),(6,I (Int.tmod (wr ((wr (n0 + 1)) - a0)) (wr (n0 + 1)))),(7,I (Int.tmod (wr ((wr (n0 + 1)) - a4)) (wr (n0 + 1)))),(8,I (Int.tmod (wr ((wr (n0 + 1)) - a8)) (wr (n0 + 1)))),(9,I (Int.tmod (wr ((wr (n0 + 1)) - b2)) (wr (n0 + 1))))] (cq (K81 _ _ b3) K29 (ai (Qdu b4) tv)) ?_
  obtain ⟨_,b5,h⟩ := Qds h
  refine rs hc none [oN,oN,oN,some (.mk 48 true),some (.eqv (.mk 49 true) ⟨[(63,.rs 49)],[(49,some (.arr (List.map I (a1 ++ [(Int.tmod (wr ((wr (n0 + 1)) - a8)) (wr (n0 + 1)))])))),(27,none),(48,none)],[49]⟩),oN,oN] [(0,I n0),(2,.ra 1 0),(3,.ra 2 0),(4,I a0),(5,I a4),(6,I (Int.tmod (wr ((wr (n0 + 1)) - a0)) (wr (n0 + 1)))),(7,I (Int.tmod (wr ((wr (n0 + 1)) - a4)) (wr (n0 + 1)))),(9,I (Int.tmod (wr ((wr (n0 + 1)) - b2)) (wr (n0 + 1))))] [(1,.box [I 0,.nils,.nils,.nils]),(2,.box [I (wr (n0 + 1)),.rs 49,.rs 28,.rs 29]),(28,rI a2),(29,.arr (List.map AV.bool a3)),(49,.arr (List.map I (a1 ++ [(Int.tmod (wr ((wr (n0 + 1)) - a8)) (wr (n0 + 1)))])))] (ab (congrArg (fun z => (⟨[(63,.rs 49)],[(49,some (.arr z)),(27,none),(48,none)],[49]⟩ : Wr)) ((List.map_append).symm : (List.map I a1) ++ (List.map I [(Int.tmod (wr ((wr (n0 + 1)) - a8)) (wr (n0 + 1)))]) = List.map I (a1 ++ [(Int.tmod (wr ((wr (n0 + 1)) - a8)) (wr (n0 + 1)))]))) (Qe6 (enc1 := I) (enc2 := I) (e1 := a1) (e2 := [(Int.tmod (wr ((wr (n0 + 1)) - a8)) (wr (n0 + 1)))]) (sz := 1) Qef Qef b5) tv) ?_
  obtain ⟨_,b6,h⟩ := Qds h
  refine rs hc none [oN,oN,oN,some (.mk 50 true),some (.eqv (.mk 51 true) ⟨[(69,.rs 51)],[(51,some (.arr (List.map I (a2 ++ [(Int.tmod (wr ((wr (n0 + 1)) - b2)) (wr (n0 + 1)))])))),(28,none),(50,none)],[51]⟩),oN,oN] [(0,I n0),(2,.ra 1 0),(3,.ra 2 0),(4,I a0),(5,I a4),(6,I (Int.tmod (wr ((wr (n0 + 1)) - a0)) (wr (n0 + 1)))),(7,I (Int.tmod (wr ((wr (n0 + 1)) - a4)) (wr (n0 + 1))))] [(1,.box [I 0,.nils,.nils,.nils]),(2,.box [I (wr (n0 + 1)),.rs 49,.rs 51,.rs 29]),(29,.arr (List.map AV.bool a3)),(49,.arr (List.map I (a1 ++ [(Int.tmod (wr ((wr (n0 + 1)) - a8)) (wr (n0 + 1)))]))),(51,.arr (List.map I (a2 ++ [(Int.tmod (wr ((wr (n0 + 1)) - b2)) (wr (n0 + 1)))])))] (ab (congrArg (fun z => (⟨[(69,.rs 51)],[(51,some (.arr z)),(28,none),(50,none)],[51]⟩ : Wr)) ((List.map_append).symm : (List.map I a2) ++ (List.map I [(Int.tmod (wr ((wr (n0 + 1)) - b2)) (wr (n0 + 1)))]) = List.map I (a2 ++ [(Int.tmod (wr ((wr (n0 + 1)) - b2)) (wr (n0 + 1)))]))) (Qe6 (enc1 := I) (enc2 := I) (e1 := a2) (e2 := [(Int.tmod (wr ((wr (n0 + 1)) - b2)) (wr (n0 + 1)))]) (sz := 1) Qef Qef b6) tv) ?_
  obtain ⟨_,b7,h⟩ := Qds h
  refine rg hc none [oN,oN,oN,oN,oN,some (.mk 52 true),some (.eqv (.mk 53 true) ⟨[(77,.rs 53)],[(53,some (.arr (List.map AV.bool (a3 ++ [(decide ((Int.tmod (wr ((wr (n0 + 1)) - a0)) (wr (n0 + 1))) ≤ (Int.tmod (wr ((wr (n0 + 1)) - a4)) (wr (n0 + 1)))))])))),(29,none),(52,none)],[53]⟩),oN,oN] [(0,I n0),(2,.ra 1 0),(3,.ra 2 0),(4,I a0),(5,I a4)] [(1,.box [I 0,.nils,.nils,.nils]),(2,.box [I (wr (n0 + 1)),.rs 49,.rs 51,.rs 53]),(49,.arr (List.map I (a1 ++ [(Int.tmod (wr ((wr (n0 + 1)) - a8)) (wr (n0 + 1)))]))),(51,.arr (List.map I (a2 ++ [(Int.tmod (wr ((wr (n0 + 1)) - b2)) (wr (n0 + 1)))]))),(53,.arr (List.map AV.bool (a3 ++ [(decide ((Int.tmod (wr ((wr (n0 + 1)) - a0)) (wr (n0 + 1))) ≤ (Int.tmod (wr ((wr (n0 + 1)) - a4)) (wr (n0 + 1)))))])))] (ab (congrArg (fun z => (⟨[(77,.rs 53)],[(53,some (.arr z)),(29,none),(52,none)],[53]⟩ : Wr)) ((List.map_append).symm : (List.map AV.bool a3) ++ (List.map AV.bool [(decide ((Int.tmod (wr ((wr (n0 + 1)) - a0)) (wr (n0 + 1))) ≤ (Int.tmod (wr ((wr (n0 + 1)) - a4)) (wr (n0 + 1)))))]) = List.map AV.bool (a3 ++ [(decide ((Int.tmod (wr ((wr (n0 + 1)) - a0)) (wr (n0 + 1))) ≤ (Int.tmod (wr ((wr (n0 + 1)) - a4)) (wr (n0 + 1)))))]))) (Qe6 (enc1 := AV.bool) (enc2 := AV.bool) (e1 := a3) (e2 := [(decide ((Int.tmod (wr ((wr (n0 + 1)) - a0)) (wr (n0 + 1))) ≤ (Int.tmod (wr ((wr (n0 + 1)) - a4)) (wr (n0 + 1)))))]) (sz := 1) Qeh Qeh b7) tv) ?_
  refine K7d hc 3 [(0,I n0),(2,.ra 1 0),(3,.ra 2 0),(4,I a0),(5,I (wr (a4 + 1)))] ?_
  refine Qda ?_
  exact WpL.view (fun a w hv => SRx.renL [(27,49),(28,51),(29,53)] hv (by kernel_rfl) (by kernel_rfl) (by kernel_rfl)) (spec_LevelSystem_l0_ih _ _ h c hc)
 refine xt 2 ?_
 refine Qd4 ?_
 refine Qdb ?_
 obtain ⟨rfl,hq0⟩ := Prod.mk.inj (Option.some.inj h)
 obtain ⟨rfl,rfl⟩ := Prod.mk.inj (hq0)
 exact iv []
def K8q (c : Ctx) (n0 : Int) : (List Int) × (List Int) × (List Bool) → Exit → Q0a → Prop
 | (a0,a1,a2) => Qde c (.exit 0) (mkS [(2,.ra 1 0),(3,.ra 2 0)] [(1,.box [I 0,.nils,.nils,.nils]),(2,.box [I (wr (n0 + 1)),.rs 27,.rs 28,.rs 29]),(27,rI a0),(28,rI a1),(29,.arr (List.map AV.bool a2))])
def K8r (p : Int × (List Int) × (List Int) × (List Bool) × Int) : Option ((List Int) × (List Int) × (List Bool)) :=
 match p with
 | (n0,a0,a1,a2,a3) =>
  if (decide (a3 ≤ n0)) = true then
  (K8n (n0,a3,a0,a1,a2,0)) >>= fun (a4,a5,a6) =>
  K8r (n0,a4,a5,a6,(wr (a3 + 1)))
  else
  some ((a0,a1,a2))
 partial_fixpoint
def K8s (p : Int × (List Int) × (List Int) × (List Bool) × Int) (fl : (List Int) × (List Int) × (List Bool)) : Prop :=
 match p with
 | (n0,a0,a1,a2,a3) => ∀ c : Ctx,c.nt = 80 → WpL Tryz.prog c (cl (cl (cr (cl (cr (cr (cr K2h))))))) (K8q c n0 fl) (mkS [(0,I n0),(2,.ra 1 0),(3,.ra 2 0),(4,I a3)] [(1,.box [I 0,.nils,.nils,.nils]),(2,.box [I (wr (n0 + 1)),.rs 27,.rs 28,.rs 29]),(27,rI a0),(28,rI a1),(29,.arr (List.map AV.bool a2))])
theorem K8t : ∀ p r,K8r p = some r → K8s p r := by
 refine K8r.partial_correctness K8s ?_
 rintro spec_LevelSystem_l1_f spec_LevelSystem_l1_ih ⟨n0,a0,a1,a2,a3⟩ r h
 intro c hc
 refine WpL.step ?_
 refine sN ?_
 refine K7e hc 3 [(0,I n0),(2,.ra 1 0),(3,.ra 2 0),(4,I a3),(19,.bool (decide (a3 ≤ n0)))] ?_
 refine ic h (fun a4 h => ?_) fun a4 h => ?_
 ·refine sk ?_
  refine sN ?_
  refine bk 1 ?_
  refine K7e hc 1 [(0,I n0),(2,.ra 1 0),(3,.ra 2 0),(4,I a3),(5,I 0)] ?_
  refine bk 2 ?_
  obtain ⟨⟨a5,a6,a7⟩,a8,h⟩ := Qds h
  have hL := K8p _ _ a8 c hc
  refine lp ?_
  refine WpL.into (e := (.exit 2)) (mkS [(0,I n0),(2,.ra 1 0),(3,.ra 2 0),(4,I a3)] [(1,.box [I 0,.nils,.nils,.nils]),(2,.box [I (wr (n0 + 1)),.rs 27,.rs 28,.rs 29]),(27,rI a5),(28,rI a6),(29,.arr (List.map AV.bool a7))]) hL ?_
  refine Qd6 ?_
  refine K7d hc 3 [(0,I n0),(2,.ra 1 0),(3,.ra 2 0),(4,I (wr (a3 + 1)))] ?_
  refine Qda ?_
  exact (spec_LevelSystem_l1_ih _ _ h c hc)
 refine xt 0 ?_
 refine Qd4 ?_
 refine Qdb ?_
 obtain ⟨rfl,hq0⟩ := Prod.mk.inj (Option.some.inj h)
 obtain ⟨rfl,rfl⟩ := Prod.mk.inj (hq0)
 exact iv []
def K8u (n0 : Int) : Option (K00) :=
 (K7w (n0,1,15)) >>= fun a0 =>
 if a0 = true then
 (K8r (n0,[],[],[],0)) >>= fun (a1,a2,a3) =>
 some (K00.mk (wr (n0 + 1)) a1 a2 a3)
 else
 some (K00.mk 0 [] [] [])
def K8v (n0 : Int) (r : K00) : Prop :=
 Q75 Tryz.prog 153 [I n0] (K1f r) []
theorem K8w : ∀ p r,K8u p = some r → K8v p r := by
 rintro n0 r h
 unfold K8u at h
 refine b0 Tryz.f153 K2h 80 [(0,I n0)] fun c hc => ?_
 refine rs hc none [some (.new 1)] [(0,I n0),(2,.ra 1 0)] [(1,.box [I 0,.nils,.nils,.nils])] tv ?_
 refine sN ?_
 obtain ⟨a0,a1,h⟩ := Qds h
 refine rss hc none [oN,oc (.bool a0),oN] [(0,I n0),(2,.ra 1 0),(12,.bool (!a0))] (cq (K7y _ _ a1) K27 tv) ?_
 rcases is h with ⟨a2,h⟩ | ⟨a2,h⟩
 ·refine cF (!a0) (nF a2) ?_
  refine sk ?_
  refine rs hc none [oN,oN,oN,some (.new 2),oN] [(0,I n0),(2,.ra 1 0),(3,.ra 2 0)] [(1,.box [I 0,.nils,.nils,.nils]),(2,.box [I (wr (n0 + 1)),.nils,.nils,.nils])] tv ?_
  refine sN ?_
  refine K7e hc 1 [(0,I n0),(2,.ra 1 0),(3,.ra 2 0),(4,I 0)] ?_
  refine bk 0 ?_
  obtain ⟨⟨a3,a4,a5⟩,a6,h⟩ := Qds h
  have hL := K8t _ _ a6 c hc
  refine Wp.loopN (by kernel_rfl) (WpL.view (fun a w hv => SRx.renL [(27,54),(28,55),(29,56)] (SRx.nilBL 2 3 56 [I (wr (n0 + 1)),.rs 54,.rs 55,.nils] (SRx.nilBL 2 2 55 [I (wr (n0 + 1)),.rs 54,.nils,.nils] (SRx.nilBL 2 1 54 [I (wr (n0 + 1)),.nils,.nils,.nils] hv (by kernel_rfl) (by kernel_rfl) (by kernel_rfl)) (by kernel_rfl) (by kernel_rfl) (by kernel_rfl)) (by kernel_rfl) (by kernel_rfl) (by kernel_rfl)) (by kernel_rfl) (by kernel_rfl) (by kernel_rfl)) (?_ : WpL _ c _ _ (mkS [(0,I n0),(2,.ra 1 0),(3,.ra 2 0),(4,I 0)] [(1,.box [I 0,.nils,.nils,.nils]),(2,.box [I (wr (n0 + 1)),.rs 27,.rs 28,.rs 29]),(27,.arr (List.map I [])),(28,.arr (List.map I [])),(29,.arr (List.map AV.bool []))])))
  refine WpL.into (e := (.exit 0)) (mkS [(2,.ra 1 0),(3,.ra 2 0)] [(1,.box [I 0,.nils,.nils,.nils]),(2,.box [I (wr (n0 + 1)),.rs 27,.rs 28,.rs 29]),(27,rI a3),(28,rI a4),(29,.arr (List.map AV.bool a5))]) hL ?_
  refine Qd6 ?_
  refine rs0 hc 2 [(2,.ra 1 0)] [(1,.box [I (wr (n0 + 1)),.rs 27,.rs 28,.rs 29]),(27,rI a3),(28,rI a4),(29,.arr (List.map AV.bool a5))] ?_
  refine rt ?_
  obtain rfl := os h
  exact rq [true]
 refine cT (!a0) (nT a2) ?_
 refine K7e hc 2 [(2,.ra 1 0)] ?_
 refine rt ?_
 obtain rfl := os h
 exact rq [true]
def K8x (c : Ctx) : (Unit) ⊕ (Bool) → Exit → Q0a → Prop
 | .inl _ => Qde c (.exit 0) (mkS [] [])
 | .inr r => Qdn TIx Tryz.f163 [] (.bool r)
def K8y (p : K00 × Int) : Option ((Unit) ⊕ (Bool)) :=
 match p with
 | (s0,a0) =>
  if (decide (a0 < (s0.fPlus.length : Int))) = true then
  ((
  (idx s0.fPlus a0) >>= fun a1 =>
  (K7w (a1,0,(wr (s0.fSize - 1)))) >>= fun a2 =>
  if a2 = true then
  (idx s0.fTimes a0) >>= fun a3 =>
  (K7w (a3,0,(wr (s0.fSize - 1)))) >>= fun a4 =>
  some ((!a4))
  else
  some (true)
  ) : Option (Bool)) >>= fun a5 =>
  if a5 = true then
  some (.inr false)
  else
  K8y (s0,(wr (a0 + 1)))
  else
  some (.inl ())
 partial_fixpoint
def K8z (p : K00 × Int) (fl : (Unit) ⊕ (Bool)) : Prop :=
 match p with
 | (s0,a0) => ∀ c : Ctx,c.nt = 70 → WpL Tryz.prog c (cl (cl (cr (cl (cr (cr K2j)))))) (K8x c fl) (mkS [(1,.ra 1 0),(3,I a0)] [(1,K19 s0)])
theorem K90 : ∀ p r,K8y p = some r → K8z p r := by
 refine K8y.partial_correctness K8z ?_
 rintro spec_l1Tables_l0_f spec_l1Tables_l0_ih ⟨s0,a0⟩ r h
 intro c hc
 refine WpL.step ?_
 refine sN ?_
 refine rss hc none [oN,oN,oN,some (.eqv (.no) ⟨[(44,I (s0.fPlus.length : Int))],[],[]⟩),oN] [(1,.ra 1 0),(3,I a0),(45,.bool (decide (a0 < (s0.fPlus.length : Int))))] (ai (Qdy (d := 44) I s0.fPlus) tv) ?_
 refine ic h (fun a1 h => ?_) fun a1 h => ?_
 ·refine sk ?_
  refine sN ?_
  refine bk 1 ?_
  refine sN ?_
  obtain ⟨a2,a3,h⟩ := Qds h
  refine Wp.into (x := .normal) (mkS [(1,.ra 1 0),(3,I a0),(69,.bool a2)] [(1,K19 s0)]) ?_ ?_
  ·replace h := a3
   obtain ⟨a4,a5,a6,a7,h⟩ := bq2 h
   rcases is h with ⟨a8,h⟩ | ⟨a8,h⟩
   ·obtain ⟨a9,b1,b2,b3,h⟩ := bq2 h
    refine rgs hc K7f [oN,oN,oN,some (.el (I a4)),oN,oN,oN,oN,oc (.bool a6),oN,oN,oN,oN,oN,some (.el (I a9)),oN,oN,oN,oN,oc (.bool b2),oN,oF] [(1,.ra 1 0),(3,I a0),(69,.bool (!b2))] (ai (ix a5) (cq (K7y _ _ a7) K27 (ar 4 (nF a8) (ai (ix b1) (ar 5 (nF a8) (cq (K7y _ _ b3) K27 (ar 2 (nF a8) tv))))))) ?_
    obtain rfl := os h
    exact Qde.mk
   refine rgs hc K7f [oN,oN,oN,some (.el (I a4)),oN,oN,oN,oN,oc (.bool a6),oN,oN,o_,o_,o_,o_,o_,o_,o_,o_,o_,o_,oT] [(1,.ra 1 0),(3,I a0),(69,.bool true)] (ai (ix a5) (cq (K7y _ _ a7) K27 (ar 10 (neF (nT a8)) (ai (nT a8) tv)))) ?_
   obtain rfl := os h
   exact Qde.mk
  clear a3
  refine ic h (fun b4 h => ?_) fun b4 h => ?_
  ·refine rs0 hc 1 [(2,.bool false)] [] ?_
   refine rt ?_
   obtain rfl := os h
   exact re [true]
  refine sk ?_
  refine K7d hc 3 [(1,.ra 1 0),(3,I (wr (a0 + 1)))] ?_
  refine Qda ?_
  exact (spec_l1Tables_l0_ih _ _ h c hc)
 refine xt 0 ?_
 refine Qd4 ?_
 refine Qdb ?_
 obtain rfl := os h
 exact iv []
def K91 (s0 : K00) : Option (Bool) :=
 ((
 (K7w (s0.fSize,2,16)) >>= fun a0 =>
 if a0 = true then
  if ((s0.fPlus.length : Int) != (wr (s0.fSize * s0.fSize))) = true then
  some (true)
  else
  if ((s0.fTimes.length : Int) != (wr (s0.fSize * s0.fSize))) = true then
  some (true)
  else
  some (((s0.fBelow.length : Int) != (wr (s0.fSize * s0.fSize))))
 else
  some (true)
 ) : Option (Bool)) >>= fun a1 =>
 if a1 = true then
 some false
 else
 (K8y (s0,0)) >>= fun fl => match fl with
 | .inl () =>
  some true
 | .inr r =>
  some r
def K92 (s0 : K00) (r : Bool) : Prop :=
 Q75 Tryz.prog 163 [K1a s0] (.bool r) []
theorem K93 : ∀ p r,K91 p = some r → K92 p r := by
 rintro s0 r h
 unfold K91 at h
 refine b0 Tryz.f163 K2j 70 [(0,K1a s0)] fun c hc => ?_
 refine rs hc none [some (.new 1),oN] [(1,.ra 1 0)] [(1,K19 s0)] tv ?_
 refine sN ?_
 refine sN ?_
 obtain ⟨a0,a1,h⟩ := Qds h
 refine Wp.into (x := .normal) (mkS [(1,.ra 1 0),(40,.bool a0)] [(1,K19 s0)]) ?_ ?_
 ·replace h := a1
  obtain ⟨a2,a3,h⟩ := Qds h
  rcases is h with ⟨a4,h⟩ | ⟨a4,h⟩
  ·rcases is h with ⟨a5,h⟩ | ⟨a5,h⟩
   ·refine rgs hc none [oN,oN,oc (.bool a2),oN,oN,oN,oN,some (.eqv (.no) ⟨[(11,I (s0.fPlus.length : Int))],[],[]⟩),oN,oN,oN,oN,oN,oN,oF,oN,o_,o_,o_,o_,o_,o_,o_,o_,o_,oT,oN,o_,o_,o_,o_,o_,o_,o_,o_,o_,oT] [(1,.ra 1 0),(40,.bool true)] (cq (K7y _ _ a3) K27 (ar 3 (nF a4) (ai (Qdy (d := 11) I s0.fPlus) (ar 7 (nF a4) (ar 9 (neF a5) (ai a5 (ar 9 nf (ai tt tv)))))))) ?_
    obtain rfl := os h
    exact Qde.mk
   rcases is h with ⟨a6,h⟩ | ⟨a6,h⟩
   ·refine rgs hc none [oN,oN,oc (.bool a2),oN,oN,oN,oN,some (.eqv (.no) ⟨[(11,I (s0.fPlus.length : Int))],[],[]⟩),oN,oN,oN,oN,oN,oN,oF,oN,oN,oN,some (.eqv (.no) ⟨[(22,I (s0.fTimes.length : Int))],[],[]⟩),oN,oN,oN,oN,oN,oN,oF,oN,o_,o_,o_,o_,o_,o_,o_,o_,o_,oT] [(1,.ra 1 0),(40,.bool true)] (cq (K7y _ _ a3) K27 (ar 3 (nF a4) (ai (Qdy (d := 11) I s0.fPlus) (ar 7 (nF a4) (ar 3 a5 (ai (Qdy (d := 22) I s0.fTimes) (ar 7 a5 (ar 9 (neF a6) (ai a6 tv))))))))) ?_
    obtain rfl := os h
    exact Qde.mk
   refine rgs hc none [oN,oN,oc (.bool a2),oN,oN,oN,oN,some (.eqv (.no) ⟨[(11,I (s0.fPlus.length : Int))],[],[]⟩),oN,oN,oN,oN,oN,oN,oF,oN,oN,oN,some (.eqv (.no) ⟨[(22,I (s0.fTimes.length : Int))],[],[]⟩),oN,oN,oN,oN,oN,oN,oF,oN,oN,oN,some (.eqv (.no) ⟨[(33,I (s0.fBelow.length : Int))],[],[]⟩),oN,oN,oN,oN,oN,oN,oF] [(1,.ra 1 0),(40,.bool ((s0.fBelow.length : Int) != (wr (s0.fSize * s0.fSize))))] (cq (K7y _ _ a3) K27 (ar 3 (nF a4) (ai (Qdy (d := 11) I s0.fPlus) (ar 7 (nF a4) (ar 3 a5 (ai (Qdy (d := 22) I s0.fTimes) (ar 7 a5 (ar 3 a6 (ai (Qdy (d := 33) AV.bool s0.fBelow) (ar 7 a6 tv)))))))))) ?_
   obtain rfl := os h
   exact Qde.mk
  refine rgs hc none [oN,oN,oc (.bool a2),oN,oN,o_,o_,o_,o_,o_,o_,o_,o_,o_,oT,oN,o_,o_,o_,o_,o_,o_,o_,o_,o_,oT,oN,o_,o_,o_,o_,o_,o_,o_,o_,o_,oT] [(1,.ra 1 0),(40,.bool true)] (cq (K7y _ _ a3) K27 (ar 9 (neF (nT a4)) (ai (nT a4) (ar 9 nf (ai tt (ar 9 nf (ai tt tv))))))) ?_
  obtain rfl := os h
  exact Qde.mk
 clear a1
 refine ic h (fun a7 h => ?_) fun a7 h => ?_
 ·refine rs0 hc 1 [(2,.bool false)] [] ?_
  refine rt ?_
  obtain rfl := os h
  exact rq [true]
 refine sk ?_
 refine sN ?_
 refine K7e hc 1 [(1,.ra 1 0),(3,I 0)] ?_
 refine bk 0 ?_
 obtain ⟨fl,a8,h⟩ := Qds h
 have hL := K90 _ _ a8 c hc
 refine lp ?_
 rcases fl with ⟨⟩ | r
 ·refine WpL.into (e := (.exit 0)) (mkS [] []) hL ?_
  refine Qd6 ?_
  refine rs0 hc 1 [(2,.bool true)] [] ?_
  refine rt ?_
  obtain rfl := os h
  exact rq [true]
 refine WpL.mono hL ?_
 rintro _ _ ⟨rfl,hfin⟩
 obtain rfl := os h
 exact ⟨.inl rfl,hfin⟩
def K94 (p : K00 × Int × Int) : Option (Int) :=
 match p with
 | (s0,a1,b2) =>
  (idx s0.fPlus (wr ((wr (a1 * s0.fSize)) + b2))) >>= fun a0 =>
  some a0
def K95 (p : K00 × Int × Int) (r : Int) : Prop :=
 match p with
 | (s0,a1,b2) => Q75 Tryz.prog 211 [K1a s0,I a1,I b2] (I r) []
theorem K96 : ∀ p r,K94 p = some r → K95 p r := by
 rintro ⟨s0,a1,b2⟩ r h
 unfold K94 at h
 refine b0 Tryz.f211 K2l 17 [(0,K1a s0),(1,I a1),(2,I b2)] fun c hc => ?_
 refine rs hc none [some (.new 1),oN] [(1,I a1),(2,I b2),(3,.ra 1 0)] [(1,K19 s0)] tv ?_
 obtain ⟨a0,a2,h⟩ := Qds h
 refine rs hc none [oN,oN,oN,oN,oN,oN,oN,oN,some (.el (I a0)),oN,oN] [(6,I a0)] [] (ai (ix a2) tv) ?_
 refine rt ?_
 obtain rfl := os h
 exact rq [true]
def K97 : Option (List (List Nat)) := rh [0,0,0,3,0,0,0,7,8,9,10,10,12,13,14,14,14,17,18,19,20,21,21,21,24,25,26,27,28,29,29,29,32,33,34,35]
def K98 : Option (List (List Nat)) := rx [[0],[0],[0],[0],[0,1,2,3],[0],[6],[0],[0],[0],[0],[0],[7,9,10,11],[13],[14],[15],[16],[16],[16],[16],[16,17,18,19],[16],[22],[16],[16],[16],[16],[16],[23,25,26,27],[29],[30],[31]]
def K99 : Option (List (List Nat)) := rx [[0],[0],[0],[0],[0],[0,2,3,4],[6],[0],[0],[0],[0],[7,8,9,10],[0],[0],[0],[7,8,9,10,11,12,13,14],[16],[17],[18],[19],[19],[19],[19],[19,20,21,22],[19],[25],[19],[19],[19],[19],[26,27,28,29],[19],[19],[19],[26,27,28,29,30,31,32,33],[35],[36],[37]]
def K9a : Option (List (List Nat)) := rx [[0],[0],[0],[0],[0,1,2,3],[0],[0],[0],[0,1,2,3,4,5,6,7],[9],[10],[11],[11],[11],[11],[11,12,13,14],[11],[11],[11],[11,12,13,14,15,16,17,18],[20],[21],[22],[23],[23],[23],[23],[23,24,25,26],[23],[23],[23],[23,24,25,26,27,28,29,30],[32],[33],[34]]
def K9b (p : K00 × Int × Int) : Option (Int) :=
 match p with
 | (s0,a1,b2) =>
  (idx s0.fTimes (wr ((wr (a1 * s0.fSize)) + b2))) >>= fun a0 =>
  some a0
def K9c (p : K00 × Int × Int) (r : Int) : Prop :=
 match p with
 | (s0,a1,b2) => Q75 Tryz.prog 212 [K1a s0,I a1,I b2] (I r) []
theorem K9d : ∀ p r,K9b p = some r → K9c p r := by
 rintro ⟨s0,a1,b2⟩ r h
 unfold K9b at h
 refine b0 Tryz.f212 K2n 17 [(0,K1a s0),(1,I a1),(2,I b2)] fun c hc => ?_
 refine rs hc none [some (.new 1),oN] [(1,I a1),(2,I b2),(3,.ra 1 0)] [(1,K19 s0)] tv ?_
 obtain ⟨a0,a2,h⟩ := Qds h
 refine rs hc none [oN,oN,oN,oN,oN,oN,oN,oN,some (.el (I a0)),oN,oN] [(6,I a0)] [] (ai (ix a2) tv) ?_
 refine rt ?_
 obtain rfl := os h
 exact rq [true]
def K9e (p : K00 × Int × Int) : Option (Bool) :=
 match p with
 | (s0,a1,b2) =>
  (idx s0.fBelow (wr ((wr (a1 * s0.fSize)) + b2))) >>= fun a0 =>
  some a0
def K9f (p : K00 × Int × Int) (r : Bool) : Prop :=
 match p with
 | (s0,a1,b2) => Q75 Tryz.prog 202 [K1a s0,I a1,I b2] (.bool r) []
theorem K9g : ∀ p r,K9e p = some r → K9f p r := by
 rintro ⟨s0,a1,b2⟩ r h
 unfold K9e at h
 refine b0 Tryz.f202 K2p 17 [(0,K1a s0),(1,I a1),(2,I b2)] fun c hc => ?_
 refine rs hc none [some (.new 1),oN] [(1,I a1),(2,I b2),(3,.ra 1 0)] [(1,K19 s0)] tv ?_
 obtain ⟨a0,a2,h⟩ := Qds h
 refine rs hc none [oN,oN,oN,oN,oN,oN,oN,oN,some (.el (.bool a0)),oN,oN] [(6,.bool a0)] [] (ai (Qdw (enc := AV.bool) (x := .bool a0) a2 (Qe9 a0)) tv) ?_
 refine rt ?_
 obtain rfl := os h
 exact rq [true]
def K9h (p : K00 × Int) : Option (Bool) :=
 match p with
 | (s0,a1) =>
  ((
  (K94 (s0,0,a1)) >>= fun a0 =>
  if (a0 == a1) = true then
  (K9b (s0,1,a1)) >>= fun a2 =>
  if (a2 == a1) = true then
  (K9b (s0,a1,1)) >>= fun a3 =>
  if (a3 == a1) = true then
  (K9b (s0,0,a1)) >>= fun a4 =>
  if (a4 == 0) = true then
  (K9b (s0,a1,0)) >>= fun a5 =>
  if (a5 == 0) = true then
  (K9e (s0,a1,a1)) >>= fun a6 =>
  some (a6)
  else
  some (false)
  else
  some (false)
  else
  some (false)
  else
  some (false)
  else
  some (false)
  ) : Option (Bool)) >>= fun a7 =>
  some a7
def K9i (p : K00 × Int) (r : Bool) : Prop :=
 match p with
 | (s0,a1) => Q75 Tryz.prog 164 [K1a s0,I a1] (.bool r) []
theorem K9j : ∀ p r,K9h p = some r → K9i p r := by
 rintro ⟨s0,a1⟩ r h
 unfold K9h at h
 refine b0 Tryz.f164 K2r 42 [(0,K1a s0),(1,I a1)] fun c hc => ?_
 refine rs hc none [some (.new 1),oN] [(1,I a1),(2,.ra 1 0)] [(1,K19 s0)] tv ?_
 refine sN ?_
 obtain ⟨a0,a2,h⟩ := Qds h
 refine Wp.into (x := .normal) (mkS [(4,.bool a0)] []) ?_ ?_
 ·replace h := a2
  obtain ⟨a3,a4,h⟩ := Qds h
  rcases is h with ⟨a5,h⟩ | ⟨a5,h⟩
  ·obtain ⟨a6,a7,h⟩ := Qds h
   rcases is h with ⟨a8,h⟩ | ⟨a8,h⟩
   ·obtain ⟨a9,b1,h⟩ := Qds h
    rcases is h with ⟨b2,h⟩ | ⟨b2,h⟩
    ·obtain ⟨b3,b4,h⟩ := Qds h
     rcases is h with ⟨b5,h⟩ | ⟨b5,h⟩
     ·obtain ⟨b6,b7,h⟩ := Qds h
      rcases is h with ⟨b8,h⟩ | ⟨b8,h⟩
      ·obtain ⟨b9,c0,h⟩ := Qds h
       refine rg hc none [oN,oN,oc (I a3),oN,oN,oN,oN,oN,oc (I a6),oN,oN,oT,oN,oN,oN,oc (I a9),oN,oN,oT,oN,oN,oN,oc (I b3),oN,oT,oN,oN,oN,oc (I b6),oN,oT,oN,oN,oN,oN,oc (.bool b9),oT,oN] [(4,.bool b9)] [] (cq (K96 _ _ a4) K2m (ar 3 a5 (cq (K9d _ _ a7) K2o (ar 3 a5 (ar 3 a8 (cq (K9d _ _ b1) K2o (ar 3 a8 (ar 3 b2 (cq (K9d _ _ b4) K2o (ar 2 b2 (ar 3 b5 (cq (K9d _ _ b7) K2o (ar 2 b5 (ar 4 b8 (cq (K9g _ _ c0) K2q (ai b8 tv)))))))))))))))) ?_
       obtain rfl := os h
       exact Qde.mk
      refine rg hc none [oN,oN,oc (I a3),oN,oN,oN,oN,oN,oc (I a6),oN,oN,oT,oN,oN,oN,oc (I a9),oN,oN,oT,oN,oN,oN,oc (I b3),oN,oT,oN,oN,oN,oc (I b6),oN,oT,oN,o_,o_,o_,o_,oF,oN] [(4,.bool false)] [] (cq (K96 _ _ a4) K2m (ar 3 a5 (cq (K9d _ _ a7) K2o (ar 3 a5 (ar 3 a8 (cq (K9d _ _ b1) K2o (ar 3 a8 (ar 3 b2 (cq (K9d _ _ b4) K2o (ar 2 b2 (ar 3 b5 (cq (K9d _ _ b7) K2o (ar 2 b5 (ar 4 (neT b8) (ai b8 tv))))))))))))))) ?_
      obtain rfl := os h
      exact Qde.mk
     refine rg hc none [oN,oN,oc (I a3),oN,oN,oN,oN,oN,oc (I a6),oN,oN,oT,oN,oN,oN,oc (I a9),oN,oN,oT,oN,oN,oN,oc (I b3),oN,oT,oN,o_,o_,o_,o_,oF,oN,o_,o_,o_,o_,oF,oN] [(4,.bool false)] [] (cq (K96 _ _ a4) K2m (ar 3 a5 (cq (K9d _ _ a7) K2o (ar 3 a5 (ar 3 a8 (cq (K9d _ _ b1) K2o (ar 3 a8 (ar 3 b2 (cq (K9d _ _ b4) K2o (ar 2 b2 (ar 4 (neT b5) (ai b5 (ar 4 (neT (rfl : false = false)) (ai (rfl : false = false) tv)))))))))))))) ?_
     obtain rfl := os h
     exact Qde.mk
    refine rg hc none [oN,oN,oc (I a3),oN,oN,oN,oN,oN,oc (I a6),oN,oN,oT,oN,oN,oN,oc (I a9),oN,oN,oT,oN,o_,o_,o_,o_,oF,oN,o_,o_,o_,o_,oF,oN,o_,o_,o_,o_,oF,oN] [(4,.bool false)] [] (cq (K96 _ _ a4) K2m (ar 3 a5 (cq (K9d _ _ a7) K2o (ar 3 a5 (ar 3 a8 (cq (K9d _ _ b1) K2o (ar 3 a8 (ar 4 (neT b2) (ai b2 (ar 4 (neT (rfl : false = false)) (ai (rfl : false = false) (ar 4 (neT (rfl : false = false)) (ai (rfl : false = false) tv))))))))))))) ?_
    obtain rfl := os h
    exact Qde.mk
   refine rg hc none [oN,oN,oc (I a3),oN,oN,oN,oN,oN,oc (I a6),oN,oN,oT,oN,o_,o_,o_,o_,o_,oF,oN,o_,o_,o_,o_,oF,oN,o_,o_,o_,o_,oF,oN,o_,o_,o_,o_,oF,oN] [(4,.bool false)] [] (cq (K96 _ _ a4) K2m (ar 3 a5 (cq (K9d _ _ a7) K2o (ar 3 a5 (ar 5 (neT a8) (ai a8 (ar 4 (neT (rfl : false = false)) (ai (rfl : false = false) (ar 4 (neT (rfl : false = false)) (ai (rfl : false = false) (ar 4 (neT (rfl : false = false)) (ai (rfl : false = false) tv)))))))))))) ?_
   obtain rfl := os h
   exact Qde.mk
  refine rg hc none [oN,oN,oc (I a3),oN,oN,oN,o_,o_,o_,o_,o_,oF,oN,o_,o_,o_,o_,o_,oF,oN,o_,o_,o_,o_,oF,oN,o_,o_,o_,o_,oF,oN,o_,o_,o_,o_,oF,oN] [(4,.bool false)] [] (cq (K96 _ _ a4) K2m (ar 5 (neT a5) (ai a5 (ar 5 (neT (rfl : false = false)) (ai (rfl : false = false) (ar 4 (neT (rfl : false = false)) (ai (rfl : false = false) (ar 4 (neT (rfl : false = false)) (ai (rfl : false = false) (ar 4 (neT (rfl : false = false)) (ai (rfl : false = false) tv))))))))))) ?_
  obtain rfl := os h
  exact Qde.mk
 clear a2
 refine rt ?_
 obtain rfl := os h
 exact rq [true]
def K9k (c : Ctx) (s0 : K00) (a1 : Int) (b2 : Int) (a0 : Int) : Bool → Exit → Q0a → Prop
 | a2 => Qde c (.exit 2) (mkS [(1,I a1),(2,I b2),(3,.ra 1 0),(7,I a0),(8,.bool a2)] [(1,K19 s0)])
def K9l (p : K00 × Int × Int × Int × Bool × Int) : Option (Bool) :=
 match p with
 | (s0,a1,b2,a0,a2,a3) =>
  ((
  if (decide (a3 < s0.fSize)) = true then
  some (a2)
  else
  some (false)
  ) : Option (Bool)) >>= fun a4 =>
  if a4 = true then
  ((
  (K9e (s0,a1,a3)) >>= fun a5 =>
  if a5 = true then
  (K9e (s0,b2,a3)) >>= fun a6 =>
  if a6 = true then
  (K9e (s0,a0,a3)) >>= fun a7 =>
  some (a7)
  else
  some (true)
  else
  some (true)
  ) : Option (Bool)) >>= fun a8 =>
  K9l (s0,a1,b2,a0,a8,(wr (a3 + 1)))
  else
  some (a2)
 partial_fixpoint
def K9m (p : K00 × Int × Int × Int × Bool × Int) (fl : Bool) : Prop :=
 match p with
 | (s0,a1,b2,a0,a2,a3) => ∀ c : Ctx,c.nt = 55 → WpL Tryz.prog c (cl (cl (cr (cl (cr (cl (cl (cr (cl (cl (cr (cl (cr K2t))))))))))))) (K9k c s0 a1 b2 a0 fl) (mkS [(1,I a1),(2,I b2),(3,.ra 1 0),(7,I a0),(8,.bool a2),(9,I a3)] [(1,K19 s0)])
theorem K9n : ∀ p r,K9l p = some r → K9m p r := by
 refine K9l.partial_correctness K9m ?_
 rintro spec_l1Join_l0_f spec_l1Join_l0_ih ⟨s0,a1,b2,a0,a2,a3⟩ r h
 intro c hc
 refine WpL.step ?_
 refine sN ?_
 refine sN ?_
 obtain ⟨a4,a5,h⟩ := Qds h
 refine Wp.into (x := .normal) (mkS [(1,I a1),(2,I b2),(3,.ra 1 0),(7,I a0),(8,.bool a2),(9,I a3),(32,.bool a4)] [(1,K19 s0)]) ?_ ?_
 ·replace h := a5
  rcases is h with ⟨a6,h⟩ | ⟨a6,h⟩
  ·refine rgs hc none [oN,oN,oN,oN,oN,oN,oT] [(1,I a1),(2,I b2),(3,.ra 1 0),(7,I a0),(8,.bool a2),(9,I a3),(32,.bool a2)] (ar 2 a6 tv) ?_
   obtain rfl := os h
   exact Qde.mk
  refine rgs hc none [oN,oN,oN,oN,oN,o_,oF] [(1,I a1),(2,I b2),(3,.ra 1 0),(7,I a0),(8,.bool a2),(9,I a3),(32,.bool false)] (ab (neT a6) a6 tv) ?_
  obtain rfl := os h
  exact Qde.mk
 clear a5
 refine ic h (fun a7 h => ?_) fun a7 h => ?_
 ·refine sk ?_
  refine sN ?_
  refine bk 3 ?_
  obtain ⟨a8,a9,h⟩ := Qds h
  refine Wp.into (x := .normal) (mkS [(1,I a1),(2,I b2),(3,.ra 1 0),(7,I a0),(8,.bool a8),(9,I a3)] [(1,K19 s0)]) ?_ ?_
  ·replace h := a9
   obtain ⟨b1,b3,h⟩ := Qds h
   rcases is h with ⟨b4,h⟩ | ⟨b4,h⟩
   ·obtain ⟨b5,b6,h⟩ := Qds h
    rcases is h with ⟨b7,h⟩ | ⟨b7,h⟩
    ·obtain ⟨b8,b9,h⟩ := Qds h
     refine rgs hc none [oN,oN,oN,oc (.bool b1),oN,oN,oN,oN,oN,oc (.bool b5),oN,oF,oN,oN,oN,oN,oc (.bool b8),oF,oN] [(1,I a1),(2,I b2),(3,.ra 1 0),(7,I a0),(8,.bool b8),(9,I a3)] (cq (K9g _ _ b3) K2q (ar 4 (nF b4) (cq (K9g _ _ b6) K2q (ar 2 (nF b4) (ar 4 (nF b7) (cq (K9g _ _ b9) K2q (ai (nF b7) tv))))))) ?_
     obtain rfl := os h
     exact Qde.mk
    refine rgs hc none [oN,oN,oN,oc (.bool b1),oN,oN,oN,oN,oN,oc (.bool b5),oN,oF,oN,o_,o_,o_,o_,oT,oN] [(1,I a1),(2,I b2),(3,.ra 1 0),(7,I a0),(8,.bool true),(9,I a3)] (cq (K9g _ _ b3) K2q (ar 4 (nF b4) (cq (K9g _ _ b6) K2q (ar 2 (nF b4) (ar 4 (neF (nT b7)) (ai (nT b7) tv)))))) ?_
    obtain rfl := os h
    exact Qde.mk
   refine rgs hc none [oN,oN,oN,oc (.bool b1),oN,oN,o_,o_,o_,o_,o_,oT,oN,o_,o_,o_,o_,oT,oN] [(1,I a1),(2,I b2),(3,.ra 1 0),(7,I a0),(8,.bool true),(9,I a3)] (cq (K9g _ _ b3) K2q (ar 5 (neF (nT b4)) (ai (nT b4) (ar 4 nf (ai tt tv))))) ?_
   obtain rfl := os h
   exact Qde.mk
  clear a9
  refine K7d hc 3 [(1,I a1),(2,I b2),(3,.ra 1 0),(7,I a0),(8,.bool a8),(9,I (wr (a3 + 1)))] ?_
  refine Qda ?_
  exact (spec_l1Join_l0_ih _ _ h c hc)
 refine xt 2 ?_
 refine Qd4 ?_
 refine Qdb ?_
 obtain rfl := os h
 exact iv []
def K9o (c : Ctx) : (Unit) ⊕ (Int) → Exit → Q0a → Prop
 | .inl _ => Qde c (.exit 0) (mkS [] [])
 | .inr r => Qdn TIx Tryz.f214 [] (I r)
def K9p (p : K00 × Int × Int × Int) : Option ((Unit) ⊕ (Int)) :=
 match p with
 | (s0,a1,b2,a0) =>
  if (decide (a0 < s0.fSize)) = true then
  ((
  (K9e (s0,a1,a0)) >>= fun a2 =>
  if a2 = true then
  (K9e (s0,b2,a0)) >>= fun a3 =>
  some (a3)
  else
  some (false)
  ) : Option (Bool)) >>= fun a4 =>
  (K9l (s0,a1,b2,a0,a4,0)) >>= fun a5 =>
  if a5 = true then
  some (.inr a0)
  else
  K9p (s0,a1,b2,(wr (a0 + 1)))
  else
  some (.inl ())
 partial_fixpoint
def K9q (p : K00 × Int × Int × Int) (fl : (Unit) ⊕ (Int)) : Prop :=
 match p with
 | (s0,a1,b2,a0) => ∀ c : Ctx,c.nt = 55 → WpL Tryz.prog c (cl (cl (cr (cl (cr K2t))))) (K9o c fl) (mkS [(1,I a1),(2,I b2),(3,.ra 1 0),(7,I a0)] [(1,K19 s0)])
theorem K9r : ∀ p r,K9p p = some r → K9q p r := by
 refine K9p.partial_correctness K9q ?_
 rintro spec_l1Join_l1_f spec_l1Join_l1_ih ⟨s0,a1,b2,a0⟩ r h
 intro c hc
 refine WpL.step ?_
 refine sN ?_
 refine K7e hc 4 [(1,I a1),(2,I b2),(3,.ra 1 0),(7,I a0),(13,.bool (decide (a0 < s0.fSize)))] ?_
 refine ic h (fun a2 h => ?_) fun a2 h => ?_
 ·refine sk ?_
  refine sN ?_
  refine bk 1 ?_
  refine sN ?_
  obtain ⟨a3,a4,h⟩ := Qds h
  refine Wp.into (x := .normal) (mkS [(1,I a1),(2,I b2),(3,.ra 1 0),(7,I a0),(8,.bool a3)] [(1,K19 s0)]) ?_ ?_
  ·replace h := a4
   obtain ⟨a5,a6,h⟩ := Qds h
   rcases is h with ⟨a7,h⟩ | ⟨a7,h⟩
   ·obtain ⟨a8,a9,h⟩ := Qds h
    refine rgs hc none [oN,oN,oN,oc (.bool a5),oN,oN,oN,oN,oc (.bool a8),oT,oN] [(1,I a1),(2,I b2),(3,.ra 1 0),(7,I a0),(8,.bool a8)] (cq (K9g _ _ a6) K2q (ar 4 a7 (cq (K9g _ _ a9) K2q (ai a7 tv)))) ?_
    obtain rfl := os h
    exact Qde.mk
   refine rgs hc none [oN,oN,oN,oc (.bool a5),oN,o_,o_,o_,o_,oF,oN] [(1,I a1),(2,I b2),(3,.ra 1 0),(7,I a0),(8,.bool false)] (cq (K9g _ _ a6) K2q (ar 4 (neT a7) (ai a7 tv))) ?_
   obtain rfl := os h
   exact Qde.mk
  clear a4
  refine sN ?_
  refine K7e hc 1 [(1,I a1),(2,I b2),(3,.ra 1 0),(7,I a0),(8,.bool a3),(9,I 0)] ?_
  refine bk 2 ?_
  obtain ⟨b1,b3,h⟩ := Qds h
  have hL := K9n _ _ b3 c hc
  refine lp ?_
  refine WpL.into (e := (.exit 2)) (mkS [(1,I a1),(2,I b2),(3,.ra 1 0),(7,I a0),(8,.bool b1)] [(1,K19 s0)]) hL ?_
  refine Qd6 ?_
  refine K7e hc 1 [(1,I a1),(2,I b2),(3,.ra 1 0),(7,I a0),(53,.bool b1)] ?_
  refine ic h (fun b4 h => ?_) fun b4 h => ?_
  ·refine rs0 hc 2 [(6,I a0)] [] ?_
   refine rt ?_
   obtain rfl := os h
   exact re [true]
  refine sk ?_
  refine K7d hc 3 [(1,I a1),(2,I b2),(3,.ra 1 0),(7,I (wr (a0 + 1)))] ?_
  refine Qda ?_
  exact (spec_l1Join_l1_ih _ _ h c hc)
 refine xt 0 ?_
 refine Qd4 ?_
 refine Qdb ?_
 obtain rfl := os h
 exact iv []
def K9s (p : K00 × Int × Int) : Option (Int) :=
 match p with
 | (s0,a1,b2) =>
  (K9p (s0,a1,b2,0)) >>= fun fl => match fl with
  | .inl () =>
   some (-1)
  | .inr r =>
   some r
def K9t (p : K00 × Int × Int) (r : Int) : Prop :=
 match p with
 | (s0,a1,b2) => Q75 Tryz.prog 214 [K1a s0,I a1,I b2] (I r) []
theorem K9u : ∀ p r,K9s p = some r → K9t p r := by
 rintro ⟨s0,a1,b2⟩ r h
 unfold K9s at h
 refine b0 Tryz.f214 K2t 55 [(0,K1a s0),(1,I a1),(2,I b2)] fun c hc => ?_
 refine rs hc none [some (.new 1),oN] [(1,I a1),(2,I b2),(3,.ra 1 0)] [(1,K19 s0)] tv ?_
 refine sN ?_
 refine K7e hc 1 [(1,I a1),(2,I b2),(3,.ra 1 0),(7,I 0)] ?_
 refine bk 0 ?_
 obtain ⟨fl,a0,h⟩ := Qds h
 have hL := K9r _ _ a0 c hc
 refine lp ?_
 rcases fl with ⟨⟩ | r
 ·refine WpL.into (e := (.exit 0)) (mkS [] []) hL ?_
  refine Qd6 ?_
  refine rs0 hc 1 [(6,I (-1))] [] ?_
  refine rt ?_
  obtain rfl := os h
  exact rq [true]
 refine WpL.mono hL ?_
 rintro _ _ ⟨rfl,hfin⟩
 obtain rfl := os h
 exact ⟨.inl rfl,hfin⟩
def K9v (p : K00 × Int × Int) : Option (Bool) :=
 match p with
 | (s0,a1,b2) =>
  ((
  (K94 (s0,a1,b2)) >>= fun a0 =>
  (K94 (s0,b2,a1)) >>= fun a2 =>
  if (a0 == a2) = true then
  if (a1 == b2) = true then
  (K9s (s0,a1,b2)) >>= fun a3 =>
  some ((decide (a3 ≥ 0)))
  else
  (K9e (s0,a1,b2)) >>= fun a4 =>
  if a4 = true then
  (K9e (s0,b2,a1)) >>= fun a5 =>
  if a5 = true then
  some (false)
  else
  (K9s (s0,a1,b2)) >>= fun a3 =>
  some ((decide (a3 ≥ 0)))
  else
  (K9s (s0,a1,b2)) >>= fun a3 =>
  some ((decide (a3 ≥ 0)))
  else
  some (false)
  ) : Option (Bool)) >>= fun a6 =>
  some a6
def K9w (p : K00 × Int × Int) (r : Bool) : Prop :=
 match p with
 | (s0,a1,b2) => Q75 Tryz.prog 165 [K1a s0,I a1,I b2] (.bool r) []
theorem K9x : ∀ p r,K9v p = some r → K9w p r := by
 rintro ⟨s0,a1,b2⟩ r h
 unfold K9v at h
 refine b0 Tryz.f165 K2v 42 [(0,K1a s0),(1,I a1),(2,I b2)] fun c hc => ?_
 refine rs hc none [some (.new 1),oN] [(1,I a1),(2,I b2),(3,.ra 1 0)] [(1,K19 s0)] tv ?_
 refine sN ?_
 obtain ⟨a0,a2,h⟩ := Qds h
 refine Wp.into (x := .normal) (mkS [(6,.bool a0)] []) ?_ ?_
 ·replace h := a2
  obtain ⟨a3,a4,a5,a6,h⟩ := bq2 h
  rcases is h with ⟨a7,h⟩ | ⟨a7,h⟩
  ·rcases is h with ⟨a8,h⟩ | ⟨a8,h⟩
   ·obtain ⟨a9,b1,h⟩ := Qds h
    refine rg hc K97 [oN,oN,oN,oc (I a3),oN,oN,oN,oc (I a5),oN,oN,oN,oN,oN,oN,o_,o_,o_,o_,o_,oT,oN,o_,o_,o_,o_,o_,oT,oT,oN,oN,oN,oN,oc (I a9),oN,oT,oN] [(6,.bool (decide (a9 ≥ 0)))] [] (cq (K96 _ _ a4) K2m (cq (K96 _ _ a6) K2m (ar 4 a7 (ar 5 (neF a8) (ac a7 a8 a7 (ar 5 nf (ac a7 tt a7 (ar 4 tt (cq (K9u _ _ b1) K2u (ar 2 tt tv)))))))))) ?_
    obtain rfl := os h
    exact Qde.mk
   obtain ⟨b3,b4,h⟩ := Qds h
   rcases is h with ⟨b5,h⟩ | ⟨b5,h⟩
   ·obtain ⟨b6,b7,h⟩ := Qds h
    rcases is h with ⟨b8,h⟩ | ⟨b8,h⟩
    ·refine rg hc K97 [oN,oN,oN,oc (I a3),oN,oN,oN,oc (I a5),oN,oN,oN,oN,oN,oN,oN,oN,oN,oc (.bool b3),oN,oF,oN,oN,oN,oN,oc (.bool b6),oN,oF,oT,oN,o_,o_,o_,o_,o_,oF,oN] [(6,.bool false)] [] (cq (K96 _ _ a4) K2m (cq (K96 _ _ a6) K2m (ar 4 a7 (ar 4 a8 (cq (K9g _ _ b4) K2q (ad a8 a7 a8 a7 (ar 4 (nF b5) (cq (K9g _ _ b7) K2q (ad (nF b5) a7 (nF b5) a7 (ar 5 (neT (nF b8)) (ai (nF b8) tv))))))))))) ?_
     obtain rfl := os h
     exact Qde.mk
    obtain ⟨a9,b1,h⟩ := Qds h
    refine rg hc K97 [oN,oN,oN,oc (I a3),oN,oN,oN,oc (I a5),oN,oN,oN,oN,oN,oN,oN,oN,oN,oc (.bool b3),oN,oF,oN,oN,oN,oN,oc (.bool b6),oN,oF,oT,oN,oN,oN,oN,oc (I a9),oN,oT,oN] [(6,.bool (decide (a9 ≥ 0)))] [] (cq (K96 _ _ a4) K2m (cq (K96 _ _ a6) K2m (ar 4 a7 (ar 4 a8 (cq (K9g _ _ b4) K2q (ad a8 a7 a8 a7 (ar 4 (nF b5) (cq (K9g _ _ b7) K2q (ad (nF b5) a7 (nF b5) a7 (ar 4 (nT b8) (cq (K9u _ _ b1) K2u (ar 2 (nT b8) tv)))))))))))) ?_
    obtain rfl := os h
    exact Qde.mk
   obtain ⟨a9,b1,h⟩ := Qds h
   refine rg hc K97 [oN,oN,oN,oc (I a3),oN,oN,oN,oc (I a5),oN,oN,oN,oN,oN,oN,oN,oN,oN,oc (.bool b3),oN,oF,oN,o_,o_,o_,o_,o_,oT,oT,oN,oN,oN,oN,oc (I a9),oN,oT,oN] [(6,.bool (decide (a9 ≥ 0)))] [] (cq (K96 _ _ a4) K2m (cq (K96 _ _ a6) K2m (ar 4 a7 (ar 4 a8 (cq (K9g _ _ b4) K2q (ad a8 a7 a8 a7 (ar 5 (neF (nT b5)) (ac a7 (nT b5) a7 (ar 4 tt (cq (K9u _ _ b1) K2u (ar 2 tt tv))))))))))) ?_
   obtain rfl := os h
   exact Qde.mk
  refine rg hc K97 [oN,oN,oN,oc (I a3),oN,oN,oN,oc (I a5),oN,oN,o_,o_,o_,o_,o_,o_,o_,o_,o_,o_,o_,o_,o_,o_,o_,o_,o_,oF,oN,o_,o_,o_,o_,o_,oF,oN] [(6,.bool false)] [] (cq (K96 _ _ a4) K2m (cq (K96 _ _ a6) K2m (ar 7 (neT a7) (ai a7 (ar 5 (neT (rfl : false = false)) (ai (rfl : false = false) tv)))))) ?_
  obtain rfl := os h
  exact Qde.mk
 clear a2
 refine rt ?_
 obtain rfl := os h
 exact rq [true]
def K9y (p : K00 × Int × Int × Int) : Option (Bool) :=
 match p with
 | (s0,a1,b2,c3) =>
  ((
  (K94 (s0,a1,b2)) >>= fun a0 =>
  (K94 (s0,a0,c3)) >>= fun a2 =>
  (K94 (s0,b2,c3)) >>= fun a3 =>
  (K94 (s0,a1,a3)) >>= fun a4 =>
  if (a2 != a4) = true then
  some (true)
  else
  (K9b (s0,a1,b2)) >>= fun a5 =>
  (K9b (s0,a5,c3)) >>= fun a6 =>
  (K9b (s0,b2,c3)) >>= fun a7 =>
  (K9b (s0,a1,a7)) >>= fun a8 =>
  some ((a6 != a8))
  ) : Option (Bool)) >>= fun a9 =>
  if a9 = true then
  some false
  else
  ((
  (K94 (s0,b2,c3)) >>= fun b1 =>
  (K9b (s0,a1,b1)) >>= fun b3 =>
  (K9b (s0,a1,b2)) >>= fun b4 =>
  (K9b (s0,a1,c3)) >>= fun b5 =>
  (K94 (s0,b4,b5)) >>= fun b6 =>
  if (b3 != b6) = true then
  some (true)
  else
  (K94 (s0,a1,b2)) >>= fun b7 =>
  (K9b (s0,b7,c3)) >>= fun b8 =>
  (K9b (s0,a1,c3)) >>= fun b9 =>
  (K9b (s0,b2,c3)) >>= fun c0 =>
  (K94 (s0,b9,c0)) >>= fun c1 =>
  some ((b8 != c1))
  ) : Option (Bool)) >>= fun c2 =>
  if c2 = true then
  some false
  else
  (K9e (s0,a1,b2)) >>= fun c4 =>
  if c4 = true then
  ((
  (K9e (s0,b2,c3)) >>= fun c5 =>
  if c5 = true then
  (K9e (s0,a1,c3)) >>= fun c6 =>
  some ((!c6))
  else
  some (false)
  ) : Option (Bool)) >>= fun c7 =>
  if c7 = true then
  some false
  else
  ((
  (K94 (s0,a1,c3)) >>= fun c8 =>
  (K94 (s0,b2,c3)) >>= fun c9 =>
  (K9e (s0,c8,c9)) >>= fun d0 =>
  if d0 = true then
  (K9b (s0,a1,c3)) >>= fun d1 =>
  (K9b (s0,b2,c3)) >>= fun d2 =>
  (K9e (s0,d1,d2)) >>= fun d3 =>
  if d3 = true then
  (K9b (s0,c3,a1)) >>= fun d4 =>
  (K9b (s0,c3,b2)) >>= fun d5 =>
  (K9e (s0,d4,d5)) >>= fun d6 =>
  some (d6)
  else
  some (false)
  else
  some (false)
  ) : Option (Bool)) >>= fun d7 =>
  some d7
  else
  some true
def K9z (p : K00 × Int × Int × Int) (r : Bool) : Prop :=
 match p with
 | (s0,a1,b2,c3) => Q75 Tryz.prog 166 [K1a s0,I a1,I b2,I c3] (.bool r) []
theorem Ka0 : ∀ p r,K9y p = some r → K9z p r := by
 rintro ⟨s0,a1,b2,c3⟩ r h
 unfold K9y at h
 refine b0 Tryz.f166 K2x 129 [(0,K1a s0),(1,I a1),(2,I b2),(3,I c3)] fun c hc => ?_
 refine rs hc none [some (.new 1),oN] [(1,I a1),(2,I b2),(3,I c3),(4,.ra 1 0)] [(1,K19 s0)] tv ?_
 refine sN ?_
 refine sN ?_
 obtain ⟨a0,a2,h⟩ := Qds h
 refine Wp.into (x := .normal) (mkS [(1,I a1),(2,I b2),(3,I c3),(4,.ra 1 0),(40,.bool a0)] [(1,K19 s0)]) ?_ ?_
 ·replace h := a2
  obtain ⟨a3,a4,a5,a6,a7,a8,a9,b1,h⟩ := bq4 h
  rcases is h with ⟨b3,h⟩ | ⟨b3,h⟩
  ·refine rgs hc K98 [oN,oN,oN,oN,oc (I a3),oN,oc (I a5),oN,oN,oN,oN,oN,oc (I a7),oc (I a9),oN,oN,o_,o_,o_,o_,o_,o_,o_,o_,o_,o_,o_,o_,o_,o_,o_,oT] [(1,I a1),(2,I b2),(3,I c3),(4,.ra 1 0),(40,.bool true)] (cq (K96 _ _ a4) K2m (cq (K96 _ _ a6) K2m (cq (K96 _ _ a8) K2m (cq (K96 _ _ b1) K2m (ar 15 (neF b3) (ai b3 tv)))))) ?_
   obtain rfl := os h
   exact Qde.mk
  obtain ⟨b4,b5,b6,b7,b8,b9,c0,c1,h⟩ := bq4 h
  refine rgs hc K98 [oN,oN,oN,oN,oc (I a3),oN,oc (I a5),oN,oN,oN,oN,oN,oc (I a7),oc (I a9),oN,oN,oN,oN,oN,oN,oc (I b4),oN,oc (I b6),oN,oN,oN,oN,oN,oc (I b8),oc (I c0),oN,oF] [(1,I a1),(2,I b2),(3,I c3),(4,.ra 1 0),(40,.bool (b6 != c0))] (cq (K96 _ _ a4) K2m (cq (K96 _ _ a6) K2m (cq (K96 _ _ a8) K2m (cq (K96 _ _ b1) K2m (ar 5 b3 (cq (K9d _ _ b5) K2o (ar 2 b3 (cq (K9d _ _ b7) K2o (ar 6 b3 (cq (K9d _ _ b9) K2o (ai b3 (cq (K9d _ _ c1) K2o (ar 2 b3 tv))))))))))))) ?_
  obtain rfl := os h
  exact Qde.mk
 clear a2
 refine ic h (fun c2 h => ?_) fun c2 h => ?_
 ·refine rs0 hc 1 [(8,.bool false)] [] ?_
  refine rt ?_
  obtain rfl := os h
  exact rq [true]
 refine sk ?_
 refine sN ?_
 refine sN ?_
 obtain ⟨c4,c5,h⟩ := Qds h
 refine Wp.into (x := .normal) (mkS [(1,I a1),(2,I b2),(3,I c3),(4,.ra 1 0),(78,.bool c4)] [(1,K19 s0)]) ?_ ?_
 ·replace h := c5
  obtain ⟨c6,c7,c8,c9,d0,d1,d2,d3,h⟩ := bq4 h
  obtain ⟨d4,d5,h⟩ := Qds h
  rcases is h with ⟨d6,h⟩ | ⟨d6,h⟩
  ·refine rgs hc K99 [oN,oN,oN,oN,oN,oc (I c6),oc (I c8),oN,oN,oN,oN,oc (I d0),oN,oN,oN,oc (I d2),oc (I d4),oN,oN,o_,o_,o_,o_,o_,o_,o_,o_,o_,o_,o_,o_,o_,o_,o_,o_,o_,o_,oT] [(1,I a1),(2,I b2),(3,I c3),(4,.ra 1 0),(78,.bool true)] (cq (K96 _ _ c7) K2m (cq (K9d _ _ c9) K2o (cq (K9d _ _ d1) K2o (cq (K9d _ _ d3) K2o (cq (K96 _ _ d5) K2m (ar 18 (neF d6) (ai d6 tv))))))) ?_
   obtain rfl := os h
   exact Qde.mk
  obtain ⟨d7,d8,d9,e0,e1,e2,e3,e4,h⟩ := bq4 h
  obtain ⟨e5,e6,h⟩ := Qds h
  refine rgs hc K99 [oN,oN,oN,oN,oN,oc (I c6),oc (I c8),oN,oN,oN,oN,oc (I d0),oN,oN,oN,oc (I d2),oc (I d4),oN,oN,oN,oN,oN,oN,oc (I d7),oN,oc (I d9),oN,oN,oN,oN,oc (I e1),oN,oN,oN,oc (I e3),oc (I e5),oN,oF] [(1,I a1),(2,I b2),(3,I c3),(4,.ra 1 0),(78,.bool (d9 != e5))] (cq (K96 _ _ c7) K2m (cq (K9d _ _ c9) K2o (cq (K9d _ _ d1) K2o (cq (K9d _ _ d3) K2o (cq (K96 _ _ d5) K2m (ar 5 d6 (cq (K96 _ _ d8) K2m (ar 2 d6 (cq (K9d _ _ e0) K2o (ar 5 d6 (cq (K9d _ _ e2) K2o (ar 4 d6 (cq (K9d _ _ e4) K2o (ai d6 (cq (K96 _ _ e6) K2m (ar 2 d6 tv)))))))))))))))) ?_
  obtain rfl := os h
  exact Qde.mk
 clear c5
 refine ic h (fun e7 h => ?_) fun e7 h => ?_
 ·refine rs0 hc 1 [(8,.bool false)] [] ?_
  refine rt ?_
  obtain rfl := os h
  exact rq [true]
 refine sk ?_
 refine sN ?_
 obtain ⟨e8,e9,h⟩ := Qds h
 refine rss hc none [oN,oN,oN,oc (.bool e8),oN] [(1,I a1),(2,I b2),(3,I c3),(4,.ra 1 0),(83,.bool (!e8))] (cq (K9g _ _ e9) K2q tv) ?_
 rcases is h with ⟨f0,h⟩ | ⟨f0,h⟩
 ·refine cF (!e8) (nF f0) ?_
  refine sk ?_
  refine sN ?_
  refine sN ?_
  obtain ⟨f1,f2,h⟩ := Qds h
  refine Wp.into (x := .normal) (mkS [(1,I a1),(2,I b2),(3,I c3),(4,.ra 1 0),(94,.bool f1)] [(1,K19 s0)]) ?_ ?_
  ·replace h := f2
   obtain ⟨f3,f4,h⟩ := Qds h
   rcases is h with ⟨f5,h⟩ | ⟨f5,h⟩
   ·obtain ⟨f6,f7,h⟩ := Qds h
    refine rgs hc none [oN,oN,oN,oc (.bool f3),oN,oN,oN,oN,oc (.bool f6),oN,oT] [(1,I a1),(2,I b2),(3,I c3),(4,.ra 1 0),(94,.bool (!f6))] (cq (K9g _ _ f4) K2q (ar 4 f5 (cq (K9g _ _ f7) K2q (ar 2 f5 tv)))) ?_
    obtain rfl := os h
    exact Qde.mk
   refine rgs hc none [oN,oN,oN,oc (.bool f3),oN,o_,o_,o_,o_,o_,oF] [(1,I a1),(2,I b2),(3,I c3),(4,.ra 1 0),(94,.bool false)] (cq (K9g _ _ f4) K2q (ar 5 (neT f5) (ai f5 tv))) ?_
   obtain rfl := os h
   exact Qde.mk
  clear f2
  refine ic h (fun f8 h => ?_) fun f8 h => ?_
  ·refine rs0 hc 1 [(8,.bool false)] [] ?_
   refine rt ?_
   obtain rfl := os h
   exact rq [true]
  refine sk ?_
  refine sN ?_
  obtain ⟨f9,g0,h⟩ := Qds h
  refine Wp.into (x := .normal) (mkS [(8,.bool f9)] []) ?_ ?_
  ·replace h := g0
   obtain ⟨g1,g2,g3,g4,g5,g6,h⟩ := bq3 h
   rcases is h with ⟨g7,h⟩ | ⟨g7,h⟩
   ·obtain ⟨g8,g9,i0,i1,i2,i3,h⟩ := bq3 h
    rcases is h with ⟨i4,h⟩ | ⟨i4,h⟩
    ·obtain ⟨i5,i6,i7,i8,i9,j0,h⟩ := bq3 h
     refine rg hc K9a [oN,oN,oN,oN,oc (I g1),oN,oN,oN,oc (I g3),oc (.bool g5),oN,oN,oN,oN,oN,oc (I g8),oN,oN,oN,oc (I i0),oc (.bool i2),oT,oN,oN,oN,oN,oN,oc (I i5),oN,oN,oN,oc (I i7),oc (.bool i9),oT,oN] [(8,.bool i9)] [] (cq (K96 _ _ g2) K2m (cq (K96 _ _ g4) K2m (cq (K9g _ _ g6) K2q (ar 5 g7 (cq (K9d _ _ g9) K2o (ar 4 g7 (cq (K9d _ _ i1) K2o (ai g7 (cq (K9g _ _ i3) K2q (ai g7 (ar 5 i4 (cq (K9d _ _ i6) K2o (ar 4 i4 (cq (K9d _ _ i8) K2o (ai i4 (cq (K9g _ _ j0) K2q (ai i4 tv))))))))))))))))) ?_
     obtain rfl := os h
     exact Qde.mk
    refine rg hc K9a [oN,oN,oN,oN,oc (I g1),oN,oN,oN,oc (I g3),oc (.bool g5),oN,oN,oN,oN,oN,oc (I g8),oN,oN,oN,oc (I i0),oc (.bool i2),oT,oN,o_,o_,o_,o_,o_,o_,o_,o_,o_,o_,oF,oN] [(8,.bool false)] [] (cq (K96 _ _ g2) K2m (cq (K96 _ _ g4) K2m (cq (K9g _ _ g6) K2q (ar 5 g7 (cq (K9d _ _ g9) K2o (ar 4 g7 (cq (K9d _ _ i1) K2o (ai g7 (cq (K9g _ _ i3) K2q (ai g7 (ar 10 (neT i4) (ai i4 tv)))))))))))) ?_
    obtain rfl := os h
    exact Qde.mk
   refine rg hc K9a [oN,oN,oN,oN,oc (I g1),oN,oN,oN,oc (I g3),oc (.bool g5),oN,o_,o_,o_,o_,o_,o_,o_,o_,o_,o_,oF,oN,o_,o_,o_,o_,o_,o_,o_,o_,o_,o_,oF,oN] [(8,.bool false)] [] (cq (K96 _ _ g2) K2m (cq (K96 _ _ g4) K2m (cq (K9g _ _ g6) K2q (ar 10 (neT g7) (ai g7 (ar 10 (neT (rfl : false = false)) (ai (rfl : false = false) tv))))))) ?_
   obtain rfl := os h
   exact Qde.mk
  clear g0
  refine rt ?_
  obtain rfl := os h
  exact rq [true]
 refine cT (!e8) (nT f0) ?_
 refine rs0 hc 1 [(8,.bool true)] [] ?_
 refine rt ?_
 obtain rfl := os h
 exact rq [true]
def Ka1 (c : Ctx) (s0 : K00) (a0 : Int) (a1 : Int) : (Unit) ⊕ (Bool) → Exit → Q0a → Prop
 | .inl _ => Qde c (.exit 4) (mkS [(1,.ra 1 0),(3,I a0),(4,I a1)] [(1,K19 s0)])
 | .inr r => Qdn TIx Tryz.f80 [] (.bool r)
def Ka2 (p : K00 × Int × Int × Int) : Option ((Unit) ⊕ (Bool)) :=
 match p with
 | (s0,a0,a1,a2) =>
  if (decide (a2 < s0.fSize)) = true then
  (K9y (s0,a0,a1,a2)) >>= fun a3 =>
  if a3 = true then
  Ka2 (s0,a0,a1,(wr (a2 + 1)))
  else
  some (.inr false)
  else
  some (.inl ())
 partial_fixpoint
def Ka3 (p : K00 × Int × Int × Int) (fl : (Unit) ⊕ (Bool)) : Prop :=
 match p with
 | (s0,a0,a1,a2) => ∀ c : Ctx,c.nt = 42 → WpL Tryz.prog c (cl (cl (cr (cr (cl (cl (cr (cl (cl (cr (cr (cl (cl (cr (cl (cl (cr (cl (cr (cr B80)))))))))))))))))))) (Ka1 c s0 a0 a1 fl) (mkS [(1,.ra 1 0),(3,I a0),(4,I a1),(5,I a2)] [(1,K19 s0)])
theorem Ka4 : ∀ p r,Ka2 p = some r → Ka3 p r := by
 refine Ka2.partial_correctness Ka3 ?_
 rintro spec_IsSystem_l0_f spec_IsSystem_l0_ih ⟨s0,a0,a1,a2⟩ r h
 intro c hc
 refine WpL.step ?_
 refine sN ?_
 refine K7e hc 4 [(1,.ra 1 0),(3,I a0),(4,I a1),(5,I a2),(33,.bool (decide (a2 < s0.fSize)))] ?_
 refine ic h (fun a3 h => ?_) fun a3 h => ?_
 ·refine sk ?_
  refine sN ?_
  refine bk 5 ?_
  obtain ⟨a4,a5,h⟩ := Qds h
  refine rss hc none [oN,oN,oN,oN,oc (.bool a4),oN] [(1,.ra 1 0),(3,I a0),(4,I a1),(5,I a2),(41,.bool (!a4))] (cq (Ka0 _ _ a5) K2y tv) ?_
  rcases is h with ⟨a6,h⟩ | ⟨a6,h⟩
  ·refine cF (!a4) (nF a6) ?_
   refine sk ?_
   refine K7d hc 3 [(1,.ra 1 0),(3,I a0),(4,I a1),(5,I (wr (a2 + 1)))] ?_
   refine Qda ?_
   exact (spec_IsSystem_l0_ih _ _ h c hc)
  refine cT (!a4) (nT a6) ?_
  refine rs0 hc 1 [(2,.bool false)] [] ?_
  refine rt ?_
  obtain rfl := os h
  exact re [true]
 refine xt 4 ?_
 refine Qd4 ?_
 refine Qdb ?_
 obtain rfl := os h
 exact iv []
def Ka5 (c : Ctx) (s0 : K00) (a0 : Int) : (Unit) ⊕ (Bool) → Exit → Q0a → Prop
 | .inl _ => Qde c (.exit 2) (mkS [(1,.ra 1 0),(3,I a0)] [(1,K19 s0)])
 | .inr r => Qdn TIx Tryz.f80 [] (.bool r)
end Go.Am
