/- Walks, printed. -/
import Derived.Test.YtckgdfakjjdodaaGreatGPUTTi
set_option linter.unusedVariables false
set_option linter.unusedSimpArgs false
set_option maxRecDepth 100000
namespace Go.Am
open Go Go.Proofs
def K7q : Option (List (List Nat)) := rx [[0],[1],[0],[3],[4],[0],[0,5],[0,5,6],[8],[9],[10],[11],[12],[11],[14],[15],[11],[11,16],[11,16,17],[19],[20],[21]]
def K7r (code0 : (List Int)) : Option (Bool) :=
 some (decide ((code0.length : Int) > 1048576))
def K7s (code0 : (List Int)) (r : Bool) : Prop :=
 Q75 Tryz.prog 14 [.sl (List.map U8 code0)] (.bool r) []
theorem K7t : ∀ p r,K7r p = some r → K7s p r := by
 rintro code0 r h
 unfold K7r at h
 refine b0 Tryz.f14 B14 6 [(0,.sl (List.map U8 code0))] fun c hc => ?_
 refine rs0 hc 1 [(0,.sl (List.map U8 code0))] [] ?_
 refine rs hc none [oN,some (.eqv (.no) ⟨[(4,I (code0.length : Int))],[],[]⟩),oN,oN] [(2,.bool (decide ((code0.length : Int) > 1048576)))] [] (ai (Qdp (d := 4) U8 code0) tv) ?_
 refine rt ?_
 obtain rfl := os h
 exact rq [true]
def K7u (c : Ctx) (code0 : List Int) : Int → Exit → Q0a → Prop
 | a0 => Qd5 c (.exit 0) (mkS [(0,.sl (List.map U8 code0)),(3,I a0)] [])
def K7v (p : (List Int) × Int × Int) : Option (Int) :=
 match p with
 | (code0,a0,a1) =>
  ((
  if (decide (a1 < (code0.length : Int))) = true then
  some ((decide (a1 < 4000)))
  else
  some (false)
  ) : Option (Bool)) >>= fun a2 =>
  if a2 = true then
  (idx code0 a1) >>= fun a3 =>
  K7v (code0,(Q2p .and .i64 (wr ((wr ((wr (a0 * 151)) + (wr a3))) + 7)) 1073741823),(wr (a1 + 1)))
  else
  some (a0)
 partial_fixpoint
def K7w (p : (List Int) × Int × Int) (fl : Int) : Prop :=
 match p with
 | (code0,a0,a1) => ∀ c : Ctx,c.nt = 32 → WpL Tryz.prog c (cl (cl (cr (cl (cr (cr B71)))))) (K7u c code0 fl) (mkS [(0,.sl (List.map U8 code0)),(3,I a0),(4,I a1)] [])
theorem K7x : ∀ p r,K7v p = some r → K7w p r := by
 refine K7v.partial_correctness K7w ?_
 rintro spec_l1New_l0_f spec_l1New_l0_ih ⟨code0,a0,a1⟩ r h
 intro c hc
 refine WpL.step ?_
 refine sN ?_
 refine sN ?_
 obtain ⟨a2,a3,h⟩ := Qdj h
 refine Wp.into (x := .normal) (mkS [(0,.sl (List.map U8 code0)),(3,I a0),(4,I a1),(15,.bool a2)] []) ?_ ?_
 ·replace h := a3
  rcases is h with ⟨a4,h⟩ | ⟨a4,h⟩
  ·refine rg hc none [oN,oN,some (.eqv (.no) ⟨[(10,I (code0.length : Int))],[],[]⟩),oN,oN,oN,oN,oT] [(0,.sl (List.map U8 code0)),(3,I a0),(4,I a1),(15,.bool (decide (a1 < 4000)))] [] (ai (Qdp (d := 10) U8 code0) (ar 3 a4 tv)) ?_
   obtain rfl := os h
   exact Qd5.mk
  refine rg hc none [oN,oN,some (.eqv (.no) ⟨[(10,I (code0.length : Int))],[],[]⟩),oN,oN,o_,o_,oF] [(0,.sl (List.map U8 code0)),(3,I a0),(4,I a1),(15,.bool false)] [] (ai (Qdp (d := 10) U8 code0) (ar 2 (neT a4) (ai a4 tv))) ?_
  obtain rfl := os h
  exact Qd5.mk
 clear a3
 refine ic h (fun a5 h => ?_) fun a5 h => ?_
 ·refine sk ?_
  refine sN ?_
  refine bk 1 ?_
  obtain ⟨a6,a7,h⟩ := Qdj h
  refine rg hc none [oN,oN,oN,oN,some (.el (.int .u8 a6)),oN,oN,oN,oN,oN,oN] [(0,.sl (List.map U8 code0)),(3,I (Q2p .and .i64 (wr ((wr ((wr (a0 * 151)) + (wr a6))) + 7)) 1073741823)),(4,I a1)] [] (ai (Qdn (enc := U8) (x := .int .u8 a6) a7 (Qdz a6)) tv) ?_
  refine rg0 hc 3 [(0,.sl (List.map U8 code0)),(3,I (Q2p .and .i64 (wr ((wr ((wr (a0 * 151)) + (wr a6))) + 7)) 1073741823)),(4,I (wr (a1 + 1)))] [] ?_
  refine Qd1 ?_
  exact (spec_l1New_l0_ih _ _ h c hc)
 refine xt 0 ?_
 refine Qcv ?_
 refine Qd2 ?_
 obtain rfl := os h
 exact iv []
def K7y (code0 : (List Int)) : Option (K01) :=
 (K7v (code0,(wr (242117 + (code0.length : Int))),0)) >>= fun a0 =>
 some (K01.mk code0 0 a0)
def K7z (code0 : (List Int)) (r : K01) : Prop :=
 Q75 Tryz.prog 71 [.sl (List.map U8 code0)] (.optr [.sl (List.map U8 r.fb),I r.fi,I r.fh]) []
theorem K80 : ∀ p r,K7y p = some r → K7z p r := by
 rintro code0 r h
 unfold K7y at h
 refine b0 Tryz.f71 B71 32 [(0,.sl (List.map U8 code0))] fun c hc => ?_
 refine rs0 hc 1 [(0,.sl (List.map U8 code0))] [] ?_
 refine rs hc none [oN,some (.eqv (.no) ⟨[(6,I (code0.length : Int))],[],[]⟩),oN,oN] [(0,.sl (List.map U8 code0)),(3,I (wr (242117 + (code0.length : Int))))] [] (ai (Qdp (d := 6) U8 code0) tv) ?_
 refine sN ?_
 refine rs0 hc 1 [(0,.sl (List.map U8 code0)),(3,I (wr (242117 + (code0.length : Int)))),(4,I 0)] [] ?_
 refine bk 0 ?_
 obtain ⟨a0,a1,h⟩ := Qdj h
 have hL := K7x _ _ a1 c hc
 refine lp ?_
 refine WpL.into (e := (.exit 0)) (mkS [(0,.sl (List.map U8 code0)),(3,I a0)] []) hL ?_
 refine Qcx ?_
 refine rs hc none [oN,oN,oN,some (.new 1),oN] [(2,.ra 1 0)] [(1,.box [.sl (List.map U8 code0),I 0,I a0])] tv ?_
 refine rt ?_
 obtain rfl := os h
 exact rq [false,false,false]
def K81 (p : Int × Int) : Option (Int) :=
 match p with
 | (a0,b1) =>
  if (decide (a0 < b1)) = true then
  some a0
  else
  some b1
def K82 (p : Int × Int) (r : Int) : Prop :=
 match p with
 | (a0,b1) => Q75 Tryz.prog 123 [I a0,I b1] (I r) []
theorem K83 : ∀ p r,K81 p = some r → K82 p r := by
 rintro ⟨a0,b1⟩ r h
 unfold K81 at h
 refine b0 Tryz.f123 K2b 10 [(0,I a0),(1,I b1)] fun c hc => ?_
 refine rs0 hc 1 [(0,I a0),(1,I b1)] [] ?_
 refine sN ?_
 refine rs0 hc 3 [(0,I a0),(1,I b1),(7,.bool (decide (a0 < b1)))] [] ?_
 refine ic h (fun a1 h => ?_) fun a1 h => ?_
 ·refine rs0 hc 2 [(4,I a0)] [] ?_
  refine rt ?_
  obtain rfl := os h
  exact rq [true]
 refine sk ?_
 refine rs0 hc 2 [(4,I b1)] [] ?_
 refine rt ?_
 obtain rfl := os h
 exact rq [true]
def K84 (code0 : (List Int)) : Option (Int) :=
 (K81 ((wr (Int.tdiv (code0.length : Int) 60)),2)) >>= fun a0 =>
 some (wr (2 + a0))
def K85 (code0 : (List Int)) (r : Int) : Prop :=
 Q75 Tryz.prog 110 [.sl (List.map U8 code0)] (I r) []
theorem K86 : ∀ p r,K84 p = some r → K85 p r := by
 rintro code0 r h
 unfold K84 at h
 refine b0 Tryz.f110 K2d 8 [(0,.sl (List.map U8 code0))] fun c hc => ?_
 refine rs0 hc 1 [(0,.sl (List.map U8 code0))] [] ?_
 obtain ⟨a0,a1,h⟩ := Qdj h
 refine rs hc none [oN,some (.eqv (.no) ⟨[(4,I (code0.length : Int))],[],[]⟩),oN,oc (I a0),oN,oN] [(2,I (wr (2 + a0)))] [] (ab (Qdp (d := 4) U8 code0) ((by decide) : (60 : Int) ≠ 0) (cq (K83 _ _ a1) K2c tv)) ?_
 refine rt ?_
 obtain rfl := os h
 exact rq [true]
def K87 (c0 : K01) : Option (Int × K01) :=
 ((
 if (decide (c0.fi < (c0.fb.length : Int))) = true then
 (idx c0.fb c0.fi) >>= fun a0 =>
 some (((Q2p .and .i64 (wr ((Q2p .and .i64 (Q2p .xor .i64 (Q2r .i64 (wr ((wr (c0.fh * 6364136223846793005)) + 1442695040888963407)) 33) (Q2r .i64 (wr ((wr (c0.fh * 6364136223846793005)) + 1442695040888963407)) 45)) 255) + (wr a0))) 255),(wr (c0.fi + 1))))
 else
 some (((Q2p .and .i64 (Q2p .xor .i64 (Q2r .i64 (wr ((wr (c0.fh * 6364136223846793005)) + 1442695040888963407)) 33) (Q2r .i64 (wr ((wr (c0.fh * 6364136223846793005)) + 1442695040888963407)) 45)) 255),c0.fi))
 ) : Option (Int × Int)) >>= fun (a1,a2) =>
 some (a1,(K01.mk c0.fb a2 (wr ((wr (c0.fh * 6364136223846793005)) + 1442695040888963407))))
def K88 (c0 : K01) (r : Int × K01) : Prop :=
 Q75 Tryz.prog 174 [.optr [.sl (List.map U8 c0.fb),I c0.fi,I c0.fh]] (I r.1) [.optr [.sl (List.map U8 r.2.fb),I r.2.fi,I r.2.fh]]
theorem K89 : ∀ p r,K87 p = some r → K88 p r := by
 rintro c0 r h
 unfold K87 at h
 refine Q75.bodyO K28 (fn := Tryz.f174) (code := K2f) (by kernel_rfl) (by kernel_rfl) (by kernel_rfl) (nt := 58) (by kernel_rfl) (by kernel_rfl) (T := [(0,.ra 1000 0)]) (O := [(1000,K1e c0)]) (by kernel_rfl) (by kernel_rfl) (fun c hc => ?_)
 refine K7p hc 1 [(0,.ra 1000 0)] ?_
 refine rs0 hc 10 [(0,.ra 1000 0)] [(1000,.box [.sl (List.map U8 c0.fb),I c0.fi,I (wr ((wr (c0.fh * 6364136223846793005)) + 1442695040888963407))])] ?_
 refine rss hc (rx [[0],[1],[2],[3],[4],[0],[0,5],[0,5,6],[0,5,6,7],[0,5,6,7,8],[10],[11],[12]]) [oN,oN,oN,oN,oN,oN,oN,oN,oN,oN,oN,oN,oN] [(0,.ra 1000 0),(3,I (Q2p .and .i64 (Q2p .xor .i64 (Q2r .i64 (wr ((wr (c0.fh * 6364136223846793005)) + 1442695040888963407)) 33) (Q2r .i64 (wr ((wr (c0.fh * 6364136223846793005)) + 1442695040888963407)) 45)) 255))] (ab ((by decide) : (0 : Int) ≤ 33) ((by decide) : (0 : Int) ≤ 45) tv) ?_
 refine sN ?_
 refine rss hc (rx [[0],[1],[2],[3],[0],[0,4],[0,4,5],[0,4,5,6],[0,4,5,6,7],[9]]) [oN,oN,oN,oN,oN,oN,oN,oN,some (.eqv (.no) ⟨[(33,I (c0.fb.length : Int))],[],[]⟩),oN] [(0,.ra 1000 0),(3,I (Q2p .and .i64 (Q2p .xor .i64 (Q2r .i64 (wr ((wr (c0.fh * 6364136223846793005)) + 1442695040888963407)) 33) (Q2r .i64 (wr ((wr (c0.fh * 6364136223846793005)) + 1442695040888963407)) 45)) 255)),(34,.bool (decide (c0.fi < (c0.fb.length : Int))))] (ai (Qdp (d := 33) U8 c0.fb) tv) ?_
 obtain ⟨⟨a0,a1⟩,a2,h⟩ := Qdj h
 refine Wp.into (x := .normal) (mkS [(3,I a0)] [(1000,.box [.sl (List.map U8 c0.fb),I a1,I (wr ((wr (c0.fh * 6364136223846793005)) + 1442695040888963407))])]) ?_ ?_
 ·replace h := a2
  refine ic h (fun a3 h => ?_) fun a3 h => ?_
  ·obtain ⟨a4,a5,h⟩ := Qdj h
   refine rss hc (rx [[0],[0],[0,1],[0,1,2],[0,1,2,3],[0],[0,5],[0,5,6],[0,5,6,7],[0,1,2,3,4,5,6,7,8],[0,1,2,3,4,5,6,7,8,9],[0,1,2,3,4,5,6,7,8,9,10],[12],[13],[14]]) [oN,oN,oN,oN,oN,oN,oN,oN,oN,some (.el (.int .u8 a4)),oN,oN,oN,oN,oN] [(0,.ra 1000 0),(3,I (Q2p .and .i64 (wr ((Q2p .and .i64 (Q2p .xor .i64 (Q2r .i64 (wr ((wr (c0.fh * 6364136223846793005)) + 1442695040888963407)) 33) (Q2r .i64 (wr ((wr (c0.fh * 6364136223846793005)) + 1442695040888963407)) 45)) 255) + (wr a4))) 255))] (ai (Qdn (enc := U8) (x := .int .u8 a4) a5 (Qdz a4)) tv) ?_
   refine rg0 hc 9 [(3,I (Q2p .and .i64 (wr ((Q2p .and .i64 (Q2p .xor .i64 (Q2r .i64 (wr ((wr (c0.fh * 6364136223846793005)) + 1442695040888963407)) 33) (Q2r .i64 (wr ((wr (c0.fh * 6364136223846793005)) + 1442695040888963407)) 45)) 255) + (wr a4))) 255))] [(1000,.box [.sl (List.map U8 c0.fb),I (wr (c0.fi + 1)),I (wr ((wr (c0.fh * 6364136223846793005)) + 1442695040888963407))])] ?_
   obtain ⟨rfl,rfl⟩ := Prod.mk.inj (Option.some.inj h)
   exact Qd5.mk
  refine sk ?_
  obtain ⟨rfl,rfl⟩ := Prod.mk.inj (Option.some.inj h)
  exact iv []
 clear a2
 refine K7p hc 2 [(2,I a0)] ?_
 refine rt ?_
 obtain rfl := os h
 exact Qdg.ret (fl := [true]) (by kernel_rfl)
def K8a (p : K01 × Int) : Option (Int × K01) :=
 match p with
 | (c0,n1) =>
  if (decide (n1 ≤ 0)) = true then
  some (0,c0)
  else
  if (decide (n1 ≤ 256)) = true then
  (K87 c0) >>= fun (a0,a1) =>
  (chk (n1 ≠ 0)) >>= fun _ =>
  some ((Int.tmod a0 n1),a1)
  else
  (K87 c0) >>= fun (a2,a3) =>
  (K87 a3) >>= fun (a4,a5) =>
  (K87 a5) >>= fun (a6,a7) =>
  (K87 a7) >>= fun (a8,a9) =>
  (chk (n1 ≠ 0)) >>= fun _ =>
  some ((Int.tmod (wr ((wr ((wr ((wr (a2 * 16777216)) + (wr (a4 * 65536)))) + (wr (a6 * 256)))) + a8)) n1),a9)
def K8b (p : K01 × Int) (r : Int × K01) : Prop :=
 match p with
 | (c0,n1) => Q75 Tryz.prog 90 [.optr [.sl (List.map U8 c0.fb),I c0.fi,I c0.fh],I n1] (I r.1) [.optr [.sl (List.map U8 r.2.fb),I r.2.fi,I r.2.fh],.undef]
theorem K8c : ∀ p r,K8a p = some r → K8b p r := by
 rintro ⟨c0,n1⟩ r h
 unfold K8a at h
 refine Q75.bodyO K28 (fn := Tryz.f90) (code := B90) (by kernel_rfl) (by kernel_rfl) (by kernel_rfl) (nt := 37) (by kernel_rfl) (by kernel_rfl) (T := [(0,.ra 1000 0),(1,I n1)]) (O := [(1000,K1e c0)]) (by kernel_rfl) (by kernel_rfl) (fun c hc => ?_)
 refine K7p hc 1 [(0,.ra 1000 0),(1,I n1)] ?_
 refine sN ?_
 refine K7p hc 2 [(0,.ra 1000 0),(1,I n1),(10,.bool (decide (n1 ≤ 0)))] ?_
 refine ic h (fun a0 h => ?_) fun a0 h => ?_
 ·refine K7p hc 1 [(4,I 0)] ?_
  refine rt ?_
  obtain rfl := os h
  exact Qdg.ret (fl := [true]) (by kernel_rfl)
 refine sk ?_
 refine sN ?_
 refine K7p hc 2 [(0,.ra 1000 0),(1,I n1),(12,.bool (decide (n1 ≤ 256)))] ?_
 refine ic h (fun a1 h => ?_) fun a1 h => ?_
 ·obtain ⟨⟨a2,a3⟩,a4,h⟩ := Qdj h
  obtain ⟨_,a5,h⟩ := Qdj h
  refine rs hc none [oN,some (.call (I a2) [.optr [.sl (List.map U8 a3.fb),I a3.fi,I a3.fh]] 1),oN,oN,oN] [(4,I (Int.tmod a2 n1))] [(1000,K1e a3)] (ac (K89 _ _ a4) K2g (Qdl a5) tv) ?_
  refine rt ?_
  obtain rfl := os h
  exact Qdg.ret (fl := [true]) (by kernel_rfl)
 refine sk ?_
 obtain ⟨⟨a6,a7⟩,a8,h⟩ := Qdj h
 refine rs hc none [oN,some (.call (I a6) [.optr [.sl (List.map U8 a7.fb),I a7.fi,I a7.fh]] 1),oN] [(0,.ra 1000 0),(1,I n1),(5,I a6)] [(1000,K1e a7)] (ab (K89 _ _ a8) K2g tv) ?_
 obtain ⟨⟨a9,b1⟩,b2,h⟩ := Qdj h
 refine rs hc none [oN,some (.call (I a9) [.optr [.sl (List.map U8 b1.fb),I b1.fi,I b1.fh]] 1),oN] [(0,.ra 1000 0),(1,I n1),(5,I a6),(6,I a9)] [(1000,K1e b1)] (ab (K89 _ _ b2) K2g tv) ?_
 obtain ⟨⟨b3,b4⟩,b5,h⟩ := Qdj h
 refine rs hc none [oN,some (.call (I b3) [.optr [.sl (List.map U8 b4.fb),I b4.fi,I b4.fh]] 1),oN] [(0,.ra 1000 0),(1,I n1),(5,I a6),(6,I a9),(7,I b3)] [(1000,K1e b4)] (ab (K89 _ _ b5) K2g tv) ?_
 obtain ⟨⟨b6,b7⟩,b8,h⟩ := Qdj h
 refine rs hc none [oN,some (.call (I b6) [.optr [.sl (List.map U8 b7.fb),I b7.fi,I b7.fh]] 1),oN] [(1,I n1),(5,I a6),(6,I a9),(7,I b3),(8,I b6)] [(1000,K1e b7)] (ab (K89 _ _ b8) K2g tv) ?_
 obtain ⟨_,b9,h⟩ := Qdj h
 refine rss hc none [oN,oN,oN,oN,oN,oN,oN,oN,oN,oN,oN,oN,oN] [(4,I (Int.tmod (wr ((wr ((wr ((wr (a6 * 16777216)) + (wr (a9 * 65536)))) + (wr (b3 * 256)))) + b6)) n1))] (ai (Qdl b9) tv) ?_
 refine rt ?_
 obtain rfl := os h
 exact Qdg.ret (fl := [true]) (by kernel_rfl)
def K8d (p : K01 × Int) : Option (Bool × K01) :=
 match p with
 | (c0,n1) =>
  (K8a (c0,n1)) >>= fun (a0,a1) =>
  some ((a0 == 0),a1)
def K8e (p : K01 × Int) (r : Bool × K01) : Prop :=
 match p with
 | (c0,n1) => Q75 Tryz.prog 73 [.optr [.sl (List.map U8 c0.fb),I c0.fi,I c0.fh],I n1] (.bool r.1) [.optr [.sl (List.map U8 r.2.fb),I r.2.fi,I r.2.fh],.undef]
theorem K8f : ∀ p r,K8d p = some r → K8e p r := by
 rintro ⟨c0,n1⟩ r h
 unfold K8d at h
 refine Q75.bodyO K28 (fn := Tryz.f73) (code := B73) (by kernel_rfl) (by kernel_rfl) (by kernel_rfl) (nt := 9) (by kernel_rfl) (by kernel_rfl) (T := [(0,.ra 1000 0),(1,I n1)]) (O := [(1000,K1e c0)]) (by kernel_rfl) (by kernel_rfl) (fun c hc => ?_)
 refine K7p hc 1 [(0,.ra 1000 0),(1,I n1)] ?_
 obtain ⟨⟨a0,a1⟩,a2,h⟩ := Qdj h
 refine rs hc none [oN,oN,some (.call (I a0) [.optr [.sl (List.map U8 a1.fb),I a1.fi,I a1.fh],.undef] 1),oN,oN] [(4,.bool (a0 == 0))] [(1000,K1e a1)] (ab (K8c _ _ a2) K2h tv) ?_
 refine rt ?_
 obtain rfl := os h
 exact Qdg.ret (fl := [true]) (by kernel_rfl)
def K8g (p : Int × Int × Int) : Option (Bool) :=
 match p with
 | (n0,low1,high2) =>
  ((
  if (decide (n0 ≥ low1)) = true then
  some ((decide (n0 ≤ high2)))
  else
  some (false)
  ) : Option (Bool)) >>= fun a0 =>
  some a0
def K8h (p : Int × Int × Int) (r : Bool) : Prop :=
 match p with
 | (n0,low1,high2) => Q75 Tryz.prog 119 [I n0,I low1,I high2] (.bool r) []
theorem K8i : ∀ p r,K8g p = some r → K8h p r := by
 rintro ⟨n0,low1,high2⟩ r h
 unfold K8g at h
 refine b0 Tryz.f119 K2j 15 [(0,I n0),(1,I low1),(2,I high2)] fun c hc => ?_
 refine rs0 hc 1 [(0,I n0),(1,I low1),(2,I high2)] [] ?_
 refine sN ?_
 obtain ⟨a0,a1,h⟩ := Qdj h
 refine Wp.into (x := .normal) (mkS [(6,.bool a0)] []) ?_ ?_
 ·replace h := a1
  rcases is h with ⟨a2,h⟩ | ⟨a2,h⟩
  ·refine rg hc none [oN,oN,oN,oN,oN,oN,oN,oT,oN] [(6,.bool (decide (n0 ≤ high2)))] [] (ar 4 a2 tv) ?_
   obtain rfl := os h
   exact Qd5.mk
  refine rg hc none [oN,oN,oN,oN,o_,o_,o_,oF,oN] [(6,.bool false)] [] (ar 3 (neT a2) (ai a2 tv)) ?_
  obtain rfl := os h
  exact Qd5.mk
 clear a1
 refine rt ?_
 obtain rfl := os h
 exact rq [true]
def K8j (c : Ctx) (n0 : Int) (bound1 : Bool) (a0 : Int) : (List Int) × (List Int) × (List Bool) → Exit → Q0a → Prop
 | (a1,a2,a3) => Qd5 c (.exit 2) (mkS [(1,.bool bound1),(4,.ra 1 0),(5,.ra 2 0),(6,I (wr (n0 + 1))),(7,I a0)] [(1,.box [I 0,.nils,.nils,.nils]),(2,.box [I (wr (n0 + 2)),.rs 27,.rs 28,.rs 29]),(27,rI a1),(28,rI a2),(29,.arr (List.map AV.bool a3))])
def K8k (p : Int × Bool × Int × (List Int) × (List Int) × (List Bool) × Int) : Option ((List Int) × (List Int) × (List Bool)) :=
 match p with
 | (n0,bound1,a0,a1,a2,a3,a4) =>
  if (decide (a4 ≤ (wr (n0 + 1)))) = true then
  (K81 ((wr (a0 + a4)),(wr (n0 + 1)))) >>= fun a5 =>
  (K81 ((wr (a0 * a4)),(wr (n0 + 1)))) >>= fun a6 =>
  (Qdw (a1.length + [a5].length) 8) >>= fun _ =>
  (Qdw (a2.length + [a6].length) 8) >>= fun _ =>
  ((
  if (a0 == a4) = true then
  (Qdw (a3.length + [true].length) 1) >>= fun _ =>
  some ((a3 ++ [true]))
  else
  if (a4 == (wr (n0 + 1))) = true then
  (Qdw (a3.length + [true].length) 1) >>= fun _ =>
  some ((a3 ++ [true]))
  else
  if bound1 = true then
  (Qdw (a3.length + [(decide (a0 ≤ a4))].length) 1) >>= fun _ =>
  some ((a3 ++ [(decide (a0 ≤ a4))]))
  else
  (Qdw (a3.length + [false].length) 1) >>= fun _ =>
  some ((a3 ++ [false]))
  ) : Option ((List Bool))) >>= fun a7 =>
  K8k (n0,bound1,a0,(a1 ++ [a5]),(a2 ++ [a6]),a7,(wr (a4 + 1)))
  else
  some ((a1,a2,a3))
 partial_fixpoint
def K8l (p : Int × Bool × Int × (List Int) × (List Int) × (List Bool) × Int) (fl : (List Int) × (List Int) × (List Bool)) : Prop :=
 match p with
 | (n0,bound1,a0,a1,a2,a3,a4) => ∀ c : Ctx,c.nt = 74 → WpL Tryz.prog c (cl (cl (cr (cl (cl (cr (cl (cl (cr (cl (cr (cr (cr (cr K2l)))))))))))))) (K8j c n0 bound1 a0 fl) (mkS [(1,.bool bound1),(4,.ra 1 0),(5,.ra 2 0),(6,I (wr (n0 + 1))),(7,I a0),(8,I a4)] [(1,.box [I 0,.nils,.nils,.nils]),(2,.box [I (wr (n0 + 2)),.rs 27,.rs 28,.rs 29]),(27,rI a1),(28,rI a2),(29,.arr (List.map AV.bool a3))])
theorem K8m : ∀ p r,K8k p = some r → K8l p r := by
 refine K8k.partial_correctness K8l ?_
 rintro spec_l1Numbers_l0_f spec_l1Numbers_l0_ih ⟨n0,bound1,a0,a1,a2,a3,a4⟩ r h
 intro c hc
 refine WpL.step ?_
 refine sN ?_
 refine K7p hc 3 [(1,.bool bound1),(4,.ra 1 0),(5,.ra 2 0),(6,I (wr (n0 + 1))),(7,I a0),(8,I a4),(27,.bool (decide (a4 ≤ (wr (n0 + 1)))))] ?_
 refine ic h (fun a5 h => ?_) fun a5 h => ?_
 ·refine sk ?_
  refine sN ?_
  refine bk 3 ?_
  obtain ⟨a6,a7,h⟩ := Qdj h
  refine rss hc none [oN,oN,oN,oN,oc (I a6),oN] [(1,.bool bound1),(4,.ra 1 0),(5,.ra 2 0),(6,I (wr (n0 + 1))),(7,I a0),(8,I a4),(9,I a6)] (cq (K83 _ _ a7) K2c tv) ?_
  obtain ⟨a8,a9,h⟩ := Qdj h
  refine rss hc none [oN,oN,oN,oN,oc (I a8),oN] [(1,.bool bound1),(4,.ra 1 0),(5,.ra 2 0),(6,I (wr (n0 + 1))),(7,I a0),(8,I a4),(9,I a6),(10,I a8)] (cq (K83 _ _ a9) K2c tv) ?_
  obtain ⟨_,b1,h⟩ := Qdj h
  refine rs hc none [oN,oN,oN,some (.mk 48 true),some (.eqv (.mk 49 true) ⟨[(44,.rs 49)],[(49,some (rI (a1 ++ [a6]))),(27,none),(48,none)],[49]⟩),oN,oN] [(1,.bool bound1),(4,.ra 1 0),(5,.ra 2 0),(6,I (wr (n0 + 1))),(7,I a0),(8,I a4),(10,I a8)] [(1,.box [I 0,.nils,.nils,.nils]),(2,.box [I (wr (n0 + 2)),.rs 49,.rs 28,.rs 29]),(28,rI a2),(29,.arr (List.map AV.bool a3)),(49,rI (a1 ++ [a6]))] (ab (congrArg (fun z => (⟨[(44,.rs 49)],[(49,some (.arr z)),(27,none),(48,none)],[49]⟩ : Wr)) ((List.map_append).symm : (List.map I a1) ++ (List.map I [a6]) = List.map I (a1 ++ [a6]))) (Qdx (enc1 := I) (enc2 := I) (e1 := a1) (e2 := [a6]) (sz := 1) Qe6 Qe6 b1) tv) ?_
  obtain ⟨_,b2,h⟩ := Qdj h
  refine rs hc none [oN,oN,oN,some (.mk 50 true),some (.eqv (.mk 51 true) ⟨[(50,.rs 51)],[(51,some (rI (a2 ++ [a8]))),(28,none),(50,none)],[51]⟩),oN,oN] [(1,.bool bound1),(4,.ra 1 0),(5,.ra 2 0),(6,I (wr (n0 + 1))),(7,I a0),(8,I a4)] [(1,.box [I 0,.nils,.nils,.nils]),(2,.box [I (wr (n0 + 2)),.rs 49,.rs 51,.rs 29]),(29,.arr (List.map AV.bool a3)),(49,rI (a1 ++ [a6])),(51,rI (a2 ++ [a8]))] (ab (congrArg (fun z => (⟨[(50,.rs 51)],[(51,some (.arr z)),(28,none),(50,none)],[51]⟩ : Wr)) ((List.map_append).symm : (List.map I a2) ++ (List.map I [a8]) = List.map I (a2 ++ [a8]))) (Qdx (enc1 := I) (enc2 := I) (e1 := a2) (e2 := [a8]) (sz := 1) Qe6 Qe6 b2) tv) ?_
  obtain ⟨b3,b4,h⟩ := Qdj h
  refine Wp.into (x := .normal) (mkS [(1,.bool bound1),(4,.ra 1 0),(5,.ra 2 0),(6,I (wr (n0 + 1))),(7,I a0),(8,I a4)] [(1,.box [I 0,.nils,.nils,.nils]),(2,.box [I (wr (n0 + 2)),.rs 49,.rs 51,.rs 53]),(49,rI (a1 ++ [a6])),(51,rI (a2 ++ [a8])),(53,.arr (List.map AV.bool b3))]) ?_ ?_
  ·replace h := b4
   rcases is h with ⟨b5,h⟩ | ⟨b5,h⟩
   ·obtain ⟨_,b6,h⟩ := Qdj h
    refine rg hc none [oN,oN,oN,oN,oN,oN,o_,o_,o_,oT,oN,o_,o_,o_,o_,o_,o_,oT,some (.mk 52 true),some (.eqv (.mk 53 true) ⟨[(71,.rs 53)],[(53,some (.arr (List.map AV.bool (a3 ++ [true])))),(29,none),(52,none)],[53]⟩),oN,oN] [(1,.bool bound1),(4,.ra 1 0),(5,.ra 2 0),(6,I (wr (n0 + 1))),(7,I a0),(8,I a4)] [(1,.box [I 0,.nils,.nils,.nils]),(2,.box [I (wr (n0 + 2)),.rs 49,.rs 51,.rs 53]),(49,rI (a1 ++ [a6])),(51,rI (a2 ++ [a8])),(53,.arr (List.map AV.bool (a3 ++ [true])))] (ar 3 (neF b5) (ai b5 (ar 3 nf (ac tt (congrArg (fun z => (⟨[(71,.rs 53)],[(53,some (.arr z)),(29,none),(52,none)],[53]⟩ : Wr)) ((List.map_append).symm : (List.map AV.bool a3) ++ (List.map AV.bool [true]) = List.map AV.bool (a3 ++ [true]))) (Qdx (enc1 := AV.bool) (enc2 := AV.bool) (e1 := a3) (e2 := [true]) (sz := 1) Qe8 Qe8 b6) tv)))) ?_
    obtain rfl := os h
    exact Qd5.mk
   rcases is h with ⟨b7,h⟩ | ⟨b7,h⟩
   ·obtain ⟨_,b6,h⟩ := Qdj h
    refine rg hc none [oN,oN,oN,oN,oN,oN,oN,oN,oN,oF,oN,o_,o_,o_,o_,o_,o_,oT,some (.mk 52 true),some (.eqv (.mk 53 true) ⟨[(71,.rs 53)],[(53,some (.arr (List.map AV.bool (a3 ++ [true])))),(29,none),(52,none)],[53]⟩),oN,oN] [(1,.bool bound1),(4,.ra 1 0),(5,.ra 2 0),(6,I (wr (n0 + 1))),(7,I a0),(8,I a4)] [(1,.box [I 0,.nils,.nils,.nils]),(2,.box [I (wr (n0 + 2)),.rs 49,.rs 51,.rs 53]),(49,rI (a1 ++ [a6])),(51,rI (a2 ++ [a8])),(53,.arr (List.map AV.bool (a3 ++ [true])))] (ar 4 b5 (ar 3 (neF b7) (ac b7 (congrArg (fun z => (⟨[(71,.rs 53)],[(53,some (.arr z)),(29,none),(52,none)],[53]⟩ : Wr)) ((List.map_append).symm : (List.map AV.bool a3) ++ (List.map AV.bool [true]) = List.map AV.bool (a3 ++ [true]))) (Qdx (enc1 := AV.bool) (enc2 := AV.bool) (e1 := a3) (e2 := [true]) (sz := 1) Qe8 Qe8 b6) tv))) ?_
    obtain rfl := os h
    exact Qd5.mk
   rcases is h with ⟨b8,h⟩ | ⟨b8,h⟩
   ·obtain ⟨_,b6,h⟩ := Qdj h
    refine rg hc none [oN,oN,oN,oN,oN,oN,oN,oN,oN,oF,oN,oN,oN,oN,oN,oN,oT,oF,some (.mk 52 true),some (.eqv (.mk 53 true) ⟨[(71,.rs 53)],[(53,some (.arr (List.map AV.bool (a3 ++ [(decide (a0 ≤ a4))])))),(29,none),(52,none)],[53]⟩),oN,oN] [(1,.bool bound1),(4,.ra 1 0),(5,.ra 2 0),(6,I (wr (n0 + 1))),(7,I a0),(8,I a4)] [(1,.box [I 0,.nils,.nils,.nils]),(2,.box [I (wr (n0 + 2)),.rs 49,.rs 51,.rs 53]),(49,rI (a1 ++ [a6])),(51,rI (a2 ++ [a8])),(53,.arr (List.map AV.bool (a3 ++ [(decide (a0 ≤ a4))])))] (ar 4 b5 (ar 2 b7 (ar 3 b8 (ad b7 b8 b7 (congrArg (fun z => (⟨[(71,.rs 53)],[(53,some (.arr z)),(29,none),(52,none)],[53]⟩ : Wr)) ((List.map_append).symm : (List.map AV.bool a3) ++ (List.map AV.bool [(decide (a0 ≤ a4))]) = List.map AV.bool (a3 ++ [(decide (a0 ≤ a4))]))) (ai (Qdx (enc1 := AV.bool) (enc2 := AV.bool) (e1 := a3) (e2 := [(decide (a0 ≤ a4))]) (sz := 1) Qe8 Qe8 b6) tv))))) ?_
    obtain rfl := os h
    exact Qd5.mk
   obtain ⟨_,b6,h⟩ := Qdj h
   refine rg hc none [oN,oN,oN,oN,oN,oN,oN,oN,oN,oF,oN,oN,oN,o_,o_,o_,oF,oF,some (.mk 52 true),some (.eqv (.mk 53 true) ⟨[(71,.rs 53)],[(53,some (.arr (List.map AV.bool (a3 ++ [false])))),(29,none),(52,none)],[53]⟩),oN,oN] [(1,.bool bound1),(4,.ra 1 0),(5,.ra 2 0),(6,I (wr (n0 + 1))),(7,I a0),(8,I a4)] [(1,.box [I 0,.nils,.nils,.nils]),(2,.box [I (wr (n0 + 2)),.rs 49,.rs 51,.rs 53]),(49,rI (a1 ++ [a6])),(51,rI (a2 ++ [a8])),(53,.arr (List.map AV.bool (a3 ++ [false])))] (ar 4 b5 (ar 2 b7 (ar 3 (neT b8) (ad b7 b8 b7 (congrArg (fun z => (⟨[(71,.rs 53)],[(53,some (.arr z)),(29,none),(52,none)],[53]⟩ : Wr)) ((List.map_append).symm : (List.map AV.bool a3) ++ (List.map AV.bool [false]) = List.map AV.bool (a3 ++ [false]))) (ai (Qdx (enc1 := AV.bool) (enc2 := AV.bool) (e1 := a3) (e2 := [false]) (sz := 1) Qe8 Qe8 b6) tv))))) ?_
   obtain rfl := os h
   exact Qd5.mk
  clear b4
  refine K7o hc 3 [(1,.bool bound1),(4,.ra 1 0),(5,.ra 2 0),(6,I (wr (n0 + 1))),(7,I a0),(8,I (wr (a4 + 1)))] ?_
  refine Qd1 ?_
  exact WpL.view (fun a w hv => SRx.renL [(27,49),(28,51),(29,53)] hv (by kernel_rfl) (by kernel_rfl) (by kernel_rfl)) (spec_l1Numbers_l0_ih _ _ h c hc)
 refine xt 2 ?_
 refine Qcv ?_
 refine Qd2 ?_
 obtain ⟨rfl,hq0⟩ := Prod.mk.inj (Option.some.inj h)
 obtain ⟨rfl,rfl⟩ := Prod.mk.inj (hq0)
 exact iv []
def K8n (c : Ctx) (n0 : Int) : (List Int) × (List Int) × (List Bool) → Exit → Q0a → Prop
 | (a0,a1,a2) => Qd5 c (.exit 0) (mkS [(4,.ra 1 0),(5,.ra 2 0)] [(1,.box [I 0,.nils,.nils,.nils]),(2,.box [I (wr (n0 + 2)),.rs 27,.rs 28,.rs 29]),(27,rI a0),(28,rI a1),(29,.arr (List.map AV.bool a2))])
def K8o (p : Int × Bool × (List Int) × (List Int) × (List Bool) × Int) : Option ((List Int) × (List Int) × (List Bool)) :=
 match p with
 | (n0,bound1,a0,a1,a2,a3) =>
  if (decide (a3 ≤ (wr (n0 + 1)))) = true then
  (K8k (n0,bound1,a3,a0,a1,a2,0)) >>= fun (a4,a5,a6) =>
  K8o (n0,bound1,a4,a5,a6,(wr (a3 + 1)))
  else
  some ((a0,a1,a2))
 partial_fixpoint
def K8p (p : Int × Bool × (List Int) × (List Int) × (List Bool) × Int) (fl : (List Int) × (List Int) × (List Bool)) : Prop :=
 match p with
 | (n0,bound1,a0,a1,a2,a3) => ∀ c : Ctx,c.nt = 74 → WpL Tryz.prog c (cl (cl (cr (cl (cr (cr (cr (cr K2l)))))))) (K8n c n0 fl) (mkS [(1,.bool bound1),(4,.ra 1 0),(5,.ra 2 0),(6,I (wr (n0 + 1))),(7,I a3)] [(1,.box [I 0,.nils,.nils,.nils]),(2,.box [I (wr (n0 + 2)),.rs 27,.rs 28,.rs 29]),(27,rI a0),(28,rI a1),(29,.arr (List.map AV.bool a2))])
theorem K8q : ∀ p r,K8o p = some r → K8p p r := by
 refine K8o.partial_correctness K8p ?_
 rintro spec_l1Numbers_l1_f spec_l1Numbers_l1_ih ⟨n0,bound1,a0,a1,a2,a3⟩ r h
 intro c hc
 refine WpL.step ?_
 refine sN ?_
 refine K7p hc 3 [(1,.bool bound1),(4,.ra 1 0),(5,.ra 2 0),(6,I (wr (n0 + 1))),(7,I a3),(22,.bool (decide (a3 ≤ (wr (n0 + 1)))))] ?_
 refine ic h (fun a4 h => ?_) fun a4 h => ?_
 ·refine sk ?_
  refine sN ?_
  refine bk 1 ?_
  refine K7p hc 1 [(1,.bool bound1),(4,.ra 1 0),(5,.ra 2 0),(6,I (wr (n0 + 1))),(7,I a3),(8,I 0)] ?_
  refine bk 2 ?_
  obtain ⟨⟨a5,a6,a7⟩,a8,h⟩ := Qdj h
  have hL := K8m _ _ a8 c hc
  refine lp ?_
  refine WpL.into (e := (.exit 2)) (mkS [(1,.bool bound1),(4,.ra 1 0),(5,.ra 2 0),(6,I (wr (n0 + 1))),(7,I a3)] [(1,.box [I 0,.nils,.nils,.nils]),(2,.box [I (wr (n0 + 2)),.rs 27,.rs 28,.rs 29]),(27,rI a5),(28,rI a6),(29,.arr (List.map AV.bool a7))]) hL ?_
  refine Qcx ?_
  refine K7o hc 3 [(1,.bool bound1),(4,.ra 1 0),(5,.ra 2 0),(6,I (wr (n0 + 1))),(7,I (wr (a3 + 1)))] ?_
  refine Qd1 ?_
  exact (spec_l1Numbers_l1_ih _ _ h c hc)
 refine xt 0 ?_
 refine Qcv ?_
 refine Qd2 ?_
 obtain ⟨rfl,hq0⟩ := Prod.mk.inj (Option.some.inj h)
 obtain ⟨rfl,rfl⟩ := Prod.mk.inj (hq0)
 exact iv []
def K8r (p : Int × Bool) : Option (K02) :=
 match p with
 | (n0,bound1) =>
  (K8g (n0,1,14)) >>= fun a0 =>
  if a0 = true then
  (K8o (n0,bound1,[],[],[],0)) >>= fun (a1,a2,a3) =>
  some (K02.mk (wr (n0 + 2)) a1 a2 a3)
  else
  some (K02.mk 0 [] [] [])
def K8s (p : Int × Bool) (r : K02) : Prop :=
 match p with
 | (n0,bound1) => Q75 Tryz.prog 121 [I n0,.bool bound1] (K1o r) []
theorem K8t : ∀ p r,K8r p = some r → K8s p r := by
 rintro ⟨n0,bound1⟩ r h
 unfold K8r at h
 refine b0 Tryz.f121 K2l 74 [(0,I n0),(1,.bool bound1)] fun c hc => ?_
 refine rs hc none [some (.new 1)] [(0,I n0),(1,.bool bound1),(4,.ra 1 0)] [(1,.box [I 0,.nils,.nils,.nils])] tv ?_
 refine sN ?_
 obtain ⟨a0,a1,h⟩ := Qdj h
 refine rss hc none [oN,oc (.bool a0),oN] [(0,I n0),(1,.bool bound1),(4,.ra 1 0),(13,.bool (!a0))] (cq (K8i _ _ a1) K2k tv) ?_
 rcases is h with ⟨a2,h⟩ | ⟨a2,h⟩
 ·refine cF (!a0) (nF a2) ?_
  refine sk ?_
  refine rs hc none [oN,oN,oN,some (.new 2),oN] [(0,I n0),(1,.bool bound1),(4,.ra 1 0),(5,.ra 2 0)] [(1,.box [I 0,.nils,.nils,.nils]),(2,.box [I (wr (n0 + 2)),.nils,.nils,.nils])] tv ?_
  refine K7p hc 3 [(1,.bool bound1),(4,.ra 1 0),(5,.ra 2 0),(6,I (wr (n0 + 1)))] ?_
  refine sN ?_
  refine K7p hc 1 [(1,.bool bound1),(4,.ra 1 0),(5,.ra 2 0),(6,I (wr (n0 + 1))),(7,I 0)] ?_
  refine bk 0 ?_
  obtain ⟨⟨a3,a4,a5⟩,a6,h⟩ := Qdj h
  have hL := K8q _ _ a6 c hc
  refine Wp.loopN (by kernel_rfl) (WpL.view (fun a w hv => SRx.renL [(27,54),(28,55),(29,56)] (SRx.nilBL 2 3 56 [I (wr (n0 + 2)),.rs 54,.rs 55,.nils] (SRx.nilBL 2 2 55 [I (wr (n0 + 2)),.rs 54,.nils,.nils] (SRx.nilBL 2 1 54 [I (wr (n0 + 2)),.nils,.nils,.nils] hv (by kernel_rfl) (by kernel_rfl) (by kernel_rfl)) (by kernel_rfl) (by kernel_rfl) (by kernel_rfl)) (by kernel_rfl) (by kernel_rfl) (by kernel_rfl)) (by kernel_rfl) (by kernel_rfl) (by kernel_rfl)) (?_ : WpL _ c _ _ (mkS [(1,.bool bound1),(4,.ra 1 0),(5,.ra 2 0),(6,I (wr (n0 + 1))),(7,I 0)] [(1,.box [I 0,.nils,.nils,.nils]),(2,.box [I (wr (n0 + 2)),.rs 27,.rs 28,.rs 29]),(27,.arr (List.map I [])),(28,.arr (List.map I [])),(29,.arr (List.map AV.bool []))])))
  refine WpL.into (e := (.exit 0)) (mkS [(4,.ra 1 0),(5,.ra 2 0)] [(1,.box [I 0,.nils,.nils,.nils]),(2,.box [I (wr (n0 + 2)),.rs 27,.rs 28,.rs 29]),(27,rI a3),(28,rI a4),(29,.arr (List.map AV.bool a5))]) hL ?_
  refine Qcx ?_
  refine rs0 hc 2 [(4,.ra 1 0)] [(1,.box [I (wr (n0 + 2)),.rs 27,.rs 28,.rs 29]),(27,rI a3),(28,rI a4),(29,.arr (List.map AV.bool a5))] ?_
  refine rt ?_
  obtain rfl := os h
  exact rq [true]
 refine cT (!a0) (nT a2) ?_
 refine K7p hc 2 [(4,.ra 1 0)] ?_
 refine rt ?_
 obtain rfl := os h
 exact rq [true]
def K8u (n0 : Int) : Option (K02) :=
 (K8r (n0,true)) >>= fun a0 =>
 some a0
def K8v (n0 : Int) (r : K02) : Prop :=
 Q75 Tryz.prog 152 [I n0] (K1o r) []
theorem K8w : ∀ p r,K8u p = some r → K8v p r := by
 rintro n0 r h
 unfold K8u at h
 refine b0 Tryz.f152 K2n 5 [(0,I n0)] fun c hc => ?_
 refine rs hc none [some (.new 1)] [(0,I n0),(2,.ra 1 0)] [(1,.box [I 0,.nils,.nils,.nils])] tv ?_
 obtain ⟨a0,a1,h⟩ := Qdj h
 refine rs hc none [oN,some (.call (K1o a0) [] 2),oN] [(2,.ra 1 0)] [(1,.box [I a0.fSize,.rs 2,.rs 3,.rs 4]),(2,rI a0.fPlus),(3,rI a0.fTimes),(4,.arr (List.map AV.bool a0.fBelow))] (cq (K8t _ _ a1) K2m tv) ?_
 refine rt ?_
 obtain rfl := os h
 exact rq [true]
def K8x (n0 : Int) : Option (K02) :=
 (K8r (n0,false)) >>= fun a0 =>
 some a0
def K8y (n0 : Int) (r : K02) : Prop :=
 Q75 Tryz.prog 47 [I n0] (K1o r) []
theorem K8z : ∀ p r,K8x p = some r → K8y p r := by
 rintro n0 r h
 unfold K8x at h
 refine b0 Tryz.f47 B47 5 [(0,I n0)] fun c hc => ?_
 refine rs hc none [some (.new 1)] [(0,I n0),(2,.ra 1 0)] [(1,.box [I 0,.nils,.nils,.nils])] tv ?_
 obtain ⟨a0,a1,h⟩ := Qdj h
 refine rs hc none [oN,some (.call (K1o a0) [] 2),oN] [(2,.ra 1 0)] [(1,.box [I a0.fSize,.rs 2,.rs 3,.rs 4]),(2,rI a0.fPlus),(3,rI a0.fTimes),(4,.arr (List.map AV.bool a0.fBelow))] (cq (K8t _ _ a1) K2m tv) ?_
 refine rt ?_
 obtain rfl := os h
 exact rq [true]
def K90 (p : Int × Int) : Option (Int) :=
 match p with
 | (a0,b1) =>
  if (decide (a0 > b1)) = true then
  some a0
  else
  some b1
def K91 (p : Int × Int) (r : Int) : Prop :=
 match p with
 | (a0,b1) => Q75 Tryz.prog 100 [I a0,I b1] (I r) []
theorem K92 : ∀ p r,K90 p = some r → K91 p r := by
 rintro ⟨a0,b1⟩ r h
 unfold K90 at h
 refine b0 Tryz.f100 K2q 10 [(0,I a0),(1,I b1)] fun c hc => ?_
 refine rs0 hc 1 [(0,I a0),(1,I b1)] [] ?_
 refine sN ?_
 refine rs0 hc 3 [(0,I a0),(1,I b1),(7,.bool (decide (a0 > b1)))] [] ?_
 refine ic h (fun a1 h => ?_) fun a1 h => ?_
 ·refine rs0 hc 2 [(4,I a0)] [] ?_
  refine rt ?_
  obtain rfl := os h
  exact rq [true]
 refine sk ?_
 refine rs0 hc 2 [(4,I b1)] [] ?_
 refine rt ?_
 obtain rfl := os h
 exact rq [true]
def K93 (c : Ctx) (n0 : Int) (a0 : Int) : (List Int) × (List Int) × (List Bool) → Exit → Q0a → Prop
 | (a1,a2,a3) => Qd5 c (.exit 2) (mkS [(0,I n0),(2,.ra 1 0),(3,.ra 2 0),(4,I a0)] [(1,.box [I 0,.nils,.nils,.nils]),(2,.box [I (wr (n0 + 1)),.rs 27,.rs 28,.rs 29]),(27,rI a1),(28,rI a2),(29,.arr (List.map AV.bool a3))])
def K94 (p : Int × Int × (List Int) × (List Int) × (List Bool) × Int) : Option ((List Int) × (List Int) × (List Bool)) :=
 match p with
 | (n0,a0,a1,a2,a3,a4) =>
  if (decide (a4 ≤ n0)) = true then
  (chk ((wr (n0 + 1)) ≠ 0)) >>= fun _ =>
  (chk ((wr (n0 + 1)) ≠ 0)) >>= fun _ =>
  (K90 ((Int.tmod (wr ((wr (n0 + 1)) - a0)) (wr (n0 + 1))),(Int.tmod (wr ((wr (n0 + 1)) - a4)) (wr (n0 + 1))))) >>= fun a5 =>
  (chk ((wr (n0 + 1)) ≠ 0)) >>= fun _ =>
  (K81 ((Int.tmod (wr ((wr (n0 + 1)) - a0)) (wr (n0 + 1))),(Int.tmod (wr ((wr (n0 + 1)) - a4)) (wr (n0 + 1))))) >>= fun a6 =>
  (chk ((wr (n0 + 1)) ≠ 0)) >>= fun _ =>
  (Qdw (a1.length + [(Int.tmod (wr ((wr (n0 + 1)) - a5)) (wr (n0 + 1)))].length) 8) >>= fun _ =>
  (Qdw (a2.length + [(Int.tmod (wr ((wr (n0 + 1)) - a6)) (wr (n0 + 1)))].length) 8) >>= fun _ =>
  (Qdw (a3.length + [(decide ((Int.tmod (wr ((wr (n0 + 1)) - a0)) (wr (n0 + 1))) ≤ (Int.tmod (wr ((wr (n0 + 1)) - a4)) (wr (n0 + 1)))))].length) 1) >>= fun _ =>
  K94 (n0,a0,(a1 ++ [(Int.tmod (wr ((wr (n0 + 1)) - a5)) (wr (n0 + 1)))]),(a2 ++ [(Int.tmod (wr ((wr (n0 + 1)) - a6)) (wr (n0 + 1)))]),(a3 ++ [(decide ((Int.tmod (wr ((wr (n0 + 1)) - a0)) (wr (n0 + 1))) ≤ (Int.tmod (wr ((wr (n0 + 1)) - a4)) (wr (n0 + 1)))))]),(wr (a4 + 1)))
  else
  some ((a1,a2,a3))
 partial_fixpoint
def K95 (p : Int × Int × (List Int) × (List Int) × (List Bool) × Int) (fl : (List Int) × (List Int) × (List Bool)) : Prop :=
 match p with
 | (n0,a0,a1,a2,a3,a4) => ∀ c : Ctx,c.nt = 80 → WpL Tryz.prog c (cl (cl (cr (cl (cl (cr (cl (cl (cr (cl (cr (cr (cr K2s))))))))))))) (K93 c n0 a0 fl) (mkS [(0,I n0),(2,.ra 1 0),(3,.ra 2 0),(4,I a0),(5,I a4)] [(1,.box [I 0,.nils,.nils,.nils]),(2,.box [I (wr (n0 + 1)),.rs 27,.rs 28,.rs 29]),(27,rI a1),(28,rI a2),(29,.arr (List.map AV.bool a3))])
theorem K96 : ∀ p r,K94 p = some r → K95 p r := by
 refine K94.partial_correctness K95 ?_
 rintro spec_LevelSystem_l0_f spec_LevelSystem_l0_ih ⟨n0,a0,a1,a2,a3,a4⟩ r h
 intro c hc
 refine WpL.step ?_
 refine sN ?_
 refine K7p hc 3 [(0,I n0),(2,.ra 1 0),(3,.ra 2 0),(4,I a0),(5,I a4),(24,.bool (decide (a4 ≤ n0)))] ?_
 refine ic h (fun a5 h => ?_) fun a5 h => ?_
 ·refine sk ?_
  refine sN ?_
  refine bk 3 ?_
  obtain ⟨_,a6,h⟩ := Qdj h
  refine rss hc none [oN,oN,oN,oN,oN,oN,oN,oN] [(0,I n0),(2,.ra 1 0),(3,.ra 2 0),(4,I a0),(5,I a4),(6,I (Int.tmod (wr ((wr (n0 + 1)) - a0)) (wr (n0 + 1))))] (ai (Qdl a6) tv) ?_
  obtain ⟨_,a7,h⟩ := Qdj h
  refine rss hc none [oN,oN,oN,oN,oN,oN,oN,oN] [(0,I n0),(2,.ra 1 0),(3,.ra 2 0),(4,I a0),(5,I a4),(6,I (Int.tmod (wr ((wr (n0 + 1)) - a0)) (wr (n0 + 1)))),(7,I (Int.tmod (wr ((wr (n0 + 1)) - a4)) (wr (n0 + 1))))] (ai (Qdl a7) tv) ?_
  obtain ⟨a8,a9,_,b1,h⟩ := bq2 h
  refine rss hc none [oN,oN,oN,oN,oc (I a8),oN,oN,oN,oN,oN] [(0,I n0),(2,.ra 1 0),(3,.ra 2 0),(4,I a0),(5,I a4),(6,I (Int.tmod (wr ((wr (n0 + 1)) - a0)) (wr (n0 + 1)))),(7,I (Int.tmod (wr ((wr (n0 + 1)) - a4)) (wr (n0 + 1)))),(8,I (Int.tmod (wr ((wr (n0 + 1)) - a8)) (wr (n0 + 1))))] (cq (K92 _ _ a9) K2r (ai (Qdl b1) tv)) ?_
  obtain ⟨b2,b3,_,b4,h⟩ := bq2 h
  refine rss hc none [oN,oN,oN,oN,oc (I b2),oN,oN,oN,oN,oN] [(0,I n0),(2,.ra 1 0),(3,.ra 2 0),(4,I a0),(5,I a4),(6,I (Int.tmod (wr ((wr (n0 + 1)) - a0)) (wr (n0 + 1)))),(7,I (Int.tmod (wr ((wr (n0 + 1)) - a4)) (wr (n0 + 1)))),(8,I (Int.tmod (wr ((wr (n0 + 1)) - a8)) (wr (n0 + 1)))),(9,I (Int.tmod (wr ((wr (n0 + 1)) - b2)) (wr (n0 + 1))))] (cq (K83 _ _ b3) K2c (ai (Qdl b4) tv)) ?_
  obtain ⟨_,b5,h⟩ := Qdj h
  refine rs hc none [oN,oN,oN,some (.mk 48 true),some (.eqv (.mk 49 true) ⟨[(63,.rs 49)],[(49,some (.arr (List.map I (a1 ++ [(Int.tmod (wr ((wr (n0 + 1)) - a8)) (wr (n0 + 1)))])))),(27,none),(48,none)],[49]⟩),oN,oN] [(0,I n0),(2,.ra 1 0),(3,.ra 2 0),(4,I a0),(5,I a4),(6,I (Int.tmod (wr ((wr (n0 + 1)) - a0)) (wr (n0 + 1)))),(7,I (Int.tmod (wr ((wr (n0 + 1)) - a4)) (wr (n0 + 1)))),(9,I (Int.tmod (wr ((wr (n0 + 1)) - b2)) (wr (n0 + 1))))] [(1,.box [I 0,.nils,.nils,.nils]),(2,.box [I (wr (n0 + 1)),.rs 49,.rs 28,.rs 29]),(28,rI a2),(29,.arr (List.map AV.bool a3)),(49,.arr (List.map I (a1 ++ [(Int.tmod (wr ((wr (n0 + 1)) - a8)) (wr (n0 + 1)))])))] (ab (congrArg (fun z => (⟨[(63,.rs 49)],[(49,some (.arr z)),(27,none),(48,none)],[49]⟩ : Wr)) ((List.map_append).symm : (List.map I a1) ++ (List.map I [(Int.tmod (wr ((wr (n0 + 1)) - a8)) (wr (n0 + 1)))]) = List.map I (a1 ++ [(Int.tmod (wr ((wr (n0 + 1)) - a8)) (wr (n0 + 1)))]))) (Qdx (enc1 := I) (enc2 := I) (e1 := a1) (e2 := [(Int.tmod (wr ((wr (n0 + 1)) - a8)) (wr (n0 + 1)))]) (sz := 1) Qe6 Qe6 b5) tv) ?_
  obtain ⟨_,b6,h⟩ := Qdj h
  refine rs hc none [oN,oN,oN,some (.mk 50 true),some (.eqv (.mk 51 true) ⟨[(69,.rs 51)],[(51,some (.arr (List.map I (a2 ++ [(Int.tmod (wr ((wr (n0 + 1)) - b2)) (wr (n0 + 1)))])))),(28,none),(50,none)],[51]⟩),oN,oN] [(0,I n0),(2,.ra 1 0),(3,.ra 2 0),(4,I a0),(5,I a4),(6,I (Int.tmod (wr ((wr (n0 + 1)) - a0)) (wr (n0 + 1)))),(7,I (Int.tmod (wr ((wr (n0 + 1)) - a4)) (wr (n0 + 1))))] [(1,.box [I 0,.nils,.nils,.nils]),(2,.box [I (wr (n0 + 1)),.rs 49,.rs 51,.rs 29]),(29,.arr (List.map AV.bool a3)),(49,.arr (List.map I (a1 ++ [(Int.tmod (wr ((wr (n0 + 1)) - a8)) (wr (n0 + 1)))]))),(51,.arr (List.map I (a2 ++ [(Int.tmod (wr ((wr (n0 + 1)) - b2)) (wr (n0 + 1)))])))] (ab (congrArg (fun z => (⟨[(69,.rs 51)],[(51,some (.arr z)),(28,none),(50,none)],[51]⟩ : Wr)) ((List.map_append).symm : (List.map I a2) ++ (List.map I [(Int.tmod (wr ((wr (n0 + 1)) - b2)) (wr (n0 + 1)))]) = List.map I (a2 ++ [(Int.tmod (wr ((wr (n0 + 1)) - b2)) (wr (n0 + 1)))]))) (Qdx (enc1 := I) (enc2 := I) (e1 := a2) (e2 := [(Int.tmod (wr ((wr (n0 + 1)) - b2)) (wr (n0 + 1)))]) (sz := 1) Qe6 Qe6 b6) tv) ?_
  obtain ⟨_,b7,h⟩ := Qdj h
  refine rg hc none [oN,oN,oN,oN,oN,some (.mk 52 true),some (.eqv (.mk 53 true) ⟨[(77,.rs 53)],[(53,some (.arr (List.map AV.bool (a3 ++ [(decide ((Int.tmod (wr ((wr (n0 + 1)) - a0)) (wr (n0 + 1))) ≤ (Int.tmod (wr ((wr (n0 + 1)) - a4)) (wr (n0 + 1)))))])))),(29,none),(52,none)],[53]⟩),oN,oN] [(0,I n0),(2,.ra 1 0),(3,.ra 2 0),(4,I a0),(5,I a4)] [(1,.box [I 0,.nils,.nils,.nils]),(2,.box [I (wr (n0 + 1)),.rs 49,.rs 51,.rs 53]),(49,.arr (List.map I (a1 ++ [(Int.tmod (wr ((wr (n0 + 1)) - a8)) (wr (n0 + 1)))]))),(51,.arr (List.map I (a2 ++ [(Int.tmod (wr ((wr (n0 + 1)) - b2)) (wr (n0 + 1)))]))),(53,.arr (List.map AV.bool (a3 ++ [(decide ((Int.tmod (wr ((wr (n0 + 1)) - a0)) (wr (n0 + 1))) ≤ (Int.tmod (wr ((wr (n0 + 1)) - a4)) (wr (n0 + 1)))))])))] (ab (congrArg (fun z => (⟨[(77,.rs 53)],[(53,some (.arr z)),(29,none),(52,none)],[53]⟩ : Wr)) ((List.map_append).symm : (List.map AV.bool a3) ++ (List.map AV.bool [(decide ((Int.tmod (wr ((wr (n0 + 1)) - a0)) (wr (n0 + 1))) ≤ (Int.tmod (wr ((wr (n0 + 1)) - a4)) (wr (n0 + 1)))))]) = List.map AV.bool (a3 ++ [(decide ((Int.tmod (wr ((wr (n0 + 1)) - a0)) (wr (n0 + 1))) ≤ (Int.tmod (wr ((wr (n0 + 1)) - a4)) (wr (n0 + 1)))))]))) (Qdx (enc1 := AV.bool) (enc2 := AV.bool) (e1 := a3) (e2 := [(decide ((Int.tmod (wr ((wr (n0 + 1)) - a0)) (wr (n0 + 1))) ≤ (Int.tmod (wr ((wr (n0 + 1)) - a4)) (wr (n0 + 1)))))]) (sz := 1) Qe8 Qe8 b7) tv) ?_
  refine K7o hc 3 [(0,I n0),(2,.ra 1 0),(3,.ra 2 0),(4,I a0),(5,I (wr (a4 + 1)))] ?_
  refine Qd1 ?_
  exact WpL.view (fun a w hv => SRx.renL [(27,49),(28,51),(29,53)] hv (by kernel_rfl) (by kernel_rfl) (by kernel_rfl)) (spec_LevelSystem_l0_ih _ _ h c hc)
 refine xt 2 ?_
 refine Qcv ?_
 refine Qd2 ?_
 obtain ⟨rfl,hq0⟩ := Prod.mk.inj (Option.some.inj h)
 obtain ⟨rfl,rfl⟩ := Prod.mk.inj (hq0)
 exact iv []
def K97 (c : Ctx) (n0 : Int) : (List Int) × (List Int) × (List Bool) → Exit → Q0a → Prop
 | (a0,a1,a2) => Qd5 c (.exit 0) (mkS [(2,.ra 1 0),(3,.ra 2 0)] [(1,.box [I 0,.nils,.nils,.nils]),(2,.box [I (wr (n0 + 1)),.rs 27,.rs 28,.rs 29]),(27,rI a0),(28,rI a1),(29,.arr (List.map AV.bool a2))])
def K98 (p : Int × (List Int) × (List Int) × (List Bool) × Int) : Option ((List Int) × (List Int) × (List Bool)) :=
 match p with
 | (n0,a0,a1,a2,a3) =>
  if (decide (a3 ≤ n0)) = true then
  (K94 (n0,a3,a0,a1,a2,0)) >>= fun (a4,a5,a6) =>
  K98 (n0,a4,a5,a6,(wr (a3 + 1)))
  else
  some ((a0,a1,a2))
 partial_fixpoint
def K99 (p : Int × (List Int) × (List Int) × (List Bool) × Int) (fl : (List Int) × (List Int) × (List Bool)) : Prop :=
 match p with
 | (n0,a0,a1,a2,a3) => ∀ c : Ctx,c.nt = 80 → WpL Tryz.prog c (cl (cl (cr (cl (cr (cr (cr K2s))))))) (K97 c n0 fl) (mkS [(0,I n0),(2,.ra 1 0),(3,.ra 2 0),(4,I a3)] [(1,.box [I 0,.nils,.nils,.nils]),(2,.box [I (wr (n0 + 1)),.rs 27,.rs 28,.rs 29]),(27,rI a0),(28,rI a1),(29,.arr (List.map AV.bool a2))])
theorem K9a : ∀ p r,K98 p = some r → K99 p r := by
 refine K98.partial_correctness K99 ?_
 rintro spec_LevelSystem_l1_f spec_LevelSystem_l1_ih ⟨n0,a0,a1,a2,a3⟩ r h
 intro c hc
 refine WpL.step ?_
 refine sN ?_
 refine K7p hc 3 [(0,I n0),(2,.ra 1 0),(3,.ra 2 0),(4,I a3),(19,.bool (decide (a3 ≤ n0)))] ?_
 refine ic h (fun a4 h => ?_) fun a4 h => ?_
 ·refine sk ?_
  refine sN ?_
  refine bk 1 ?_
  refine K7p hc 1 [(0,I n0),(2,.ra 1 0),(3,.ra 2 0),(4,I a3),(5,I 0)] ?_
  refine bk 2 ?_
  obtain ⟨⟨a5,a6,a7⟩,a8,h⟩ := Qdj h
  have hL := K96 _ _ a8 c hc
  refine lp ?_
  refine WpL.into (e := (.exit 2)) (mkS [(0,I n0),(2,.ra 1 0),(3,.ra 2 0),(4,I a3)] [(1,.box [I 0,.nils,.nils,.nils]),(2,.box [I (wr (n0 + 1)),.rs 27,.rs 28,.rs 29]),(27,rI a5),(28,rI a6),(29,.arr (List.map AV.bool a7))]) hL ?_
  refine Qcx ?_
  refine K7o hc 3 [(0,I n0),(2,.ra 1 0),(3,.ra 2 0),(4,I (wr (a3 + 1)))] ?_
  refine Qd1 ?_
  exact (spec_LevelSystem_l1_ih _ _ h c hc)
 refine xt 0 ?_
 refine Qcv ?_
 refine Qd2 ?_
 obtain ⟨rfl,hq0⟩ := Prod.mk.inj (Option.some.inj h)
 obtain ⟨rfl,rfl⟩ := Prod.mk.inj (hq0)
 exact iv []
def K9b (n0 : Int) : Option (K02) :=
 (K8g (n0,1,15)) >>= fun a0 =>
 if a0 = true then
 (K98 (n0,[],[],[],0)) >>= fun (a1,a2,a3) =>
 some (K02.mk (wr (n0 + 1)) a1 a2 a3)
 else
 some (K02.mk 0 [] [] [])
def K9c (n0 : Int) (r : K02) : Prop :=
 Q75 Tryz.prog 153 [I n0] (K1o r) []
theorem K9d : ∀ p r,K9b p = some r → K9c p r := by
 rintro n0 r h
 unfold K9b at h
 refine b0 Tryz.f153 K2s 80 [(0,I n0)] fun c hc => ?_
 refine rs hc none [some (.new 1)] [(0,I n0),(2,.ra 1 0)] [(1,.box [I 0,.nils,.nils,.nils])] tv ?_
 refine sN ?_
 obtain ⟨a0,a1,h⟩ := Qdj h
 refine rss hc none [oN,oc (.bool a0),oN] [(0,I n0),(2,.ra 1 0),(12,.bool (!a0))] (cq (K8i _ _ a1) K2k tv) ?_
 rcases is h with ⟨a2,h⟩ | ⟨a2,h⟩
 ·refine cF (!a0) (nF a2) ?_
  refine sk ?_
  refine rs hc none [oN,oN,oN,some (.new 2),oN] [(0,I n0),(2,.ra 1 0),(3,.ra 2 0)] [(1,.box [I 0,.nils,.nils,.nils]),(2,.box [I (wr (n0 + 1)),.nils,.nils,.nils])] tv ?_
  refine sN ?_
  refine K7p hc 1 [(0,I n0),(2,.ra 1 0),(3,.ra 2 0),(4,I 0)] ?_
  refine bk 0 ?_
  obtain ⟨⟨a3,a4,a5⟩,a6,h⟩ := Qdj h
  have hL := K9a _ _ a6 c hc
  refine Wp.loopN (by kernel_rfl) (WpL.view (fun a w hv => SRx.renL [(27,54),(28,55),(29,56)] (SRx.nilBL 2 3 56 [I (wr (n0 + 1)),.rs 54,.rs 55,.nils] (SRx.nilBL 2 2 55 [I (wr (n0 + 1)),.rs 54,.nils,.nils] (SRx.nilBL 2 1 54 [I (wr (n0 + 1)),.nils,.nils,.nils] hv (by kernel_rfl) (by kernel_rfl) (by kernel_rfl)) (by kernel_rfl) (by kernel_rfl) (by kernel_rfl)) (by kernel_rfl) (by kernel_rfl) (by kernel_rfl)) (by kernel_rfl) (by kernel_rfl) (by kernel_rfl)) (?_ : WpL _ c _ _ (mkS [(0,I n0),(2,.ra 1 0),(3,.ra 2 0),(4,I 0)] [(1,.box [I 0,.nils,.nils,.nils]),(2,.box [I (wr (n0 + 1)),.rs 27,.rs 28,.rs 29]),(27,.arr (List.map I [])),(28,.arr (List.map I [])),(29,.arr (List.map AV.bool []))])))
  refine WpL.into (e := (.exit 0)) (mkS [(2,.ra 1 0),(3,.ra 2 0)] [(1,.box [I 0,.nils,.nils,.nils]),(2,.box [I (wr (n0 + 1)),.rs 27,.rs 28,.rs 29]),(27,rI a3),(28,rI a4),(29,.arr (List.map AV.bool a5))]) hL ?_
  refine Qcx ?_
  refine rs0 hc 2 [(2,.ra 1 0)] [(1,.box [I (wr (n0 + 1)),.rs 27,.rs 28,.rs 29]),(27,rI a3),(28,rI a4),(29,.arr (List.map AV.bool a5))] ?_
  refine rt ?_
  obtain rfl := os h
  exact rq [true]
 refine cT (!a0) (nT a2) ?_
 refine K7p hc 2 [(2,.ra 1 0)] ?_
 refine rt ?_
 obtain rfl := os h
 exact rq [true]
def K9e (c : Ctx) : (Unit) ⊕ (Bool) → Exit → Q0a → Prop
 | .inl _ => Qd5 c (.exit 0) (mkS [] [])
 | .inr r => Qde TIx Tryz.f163 [] (.bool r)
def K9f (p : K02 × Int) : Option ((Unit) ⊕ (Bool)) :=
 match p with
 | (s0,a0) =>
  if (decide (a0 < (s0.fPlus.length : Int))) = true then
  ((
  (idx s0.fPlus a0) >>= fun a1 =>
  (K8g (a1,0,(wr (s0.fSize - 1)))) >>= fun a2 =>
  if a2 = true then
  (idx s0.fTimes a0) >>= fun a3 =>
  (K8g (a3,0,(wr (s0.fSize - 1)))) >>= fun a4 =>
  some ((!a4))
  else
  some (true)
  ) : Option (Bool)) >>= fun a5 =>
  if a5 = true then
  some (.inr false)
  else
  K9f (s0,(wr (a0 + 1)))
  else
  some (.inl ())
 partial_fixpoint
def K9g (p : K02 × Int) (fl : (Unit) ⊕ (Bool)) : Prop :=
 match p with
 | (s0,a0) => ∀ c : Ctx,c.nt = 70 → WpL Tryz.prog c (cl (cl (cr (cl (cr (cr K2u)))))) (K9e c fl) (mkS [(1,.ra 1 0),(3,I a0)] [(1,K1g s0)])
theorem K9h : ∀ p r,K9f p = some r → K9g p r := by
 refine K9f.partial_correctness K9g ?_
 rintro spec_l1Tables_l0_f spec_l1Tables_l0_ih ⟨s0,a0⟩ r h
 intro c hc
 refine WpL.step ?_
 refine sN ?_
 refine rss hc none [oN,oN,oN,some (.eqv (.no) ⟨[(44,I (s0.fPlus.length : Int))],[],[]⟩),oN] [(1,.ra 1 0),(3,I a0),(45,.bool (decide (a0 < (s0.fPlus.length : Int))))] (ai (Qdp (d := 44) I s0.fPlus) tv) ?_
 refine ic h (fun a1 h => ?_) fun a1 h => ?_
 ·refine sk ?_
  refine sN ?_
  refine bk 1 ?_
  refine sN ?_
  obtain ⟨a2,a3,h⟩ := Qdj h
  refine Wp.into (x := .normal) (mkS [(1,.ra 1 0),(3,I a0),(69,.bool a2)] [(1,K1g s0)]) ?_ ?_
  ·replace h := a3
   obtain ⟨a4,a5,a6,a7,h⟩ := bq2 h
   rcases is h with ⟨a8,h⟩ | ⟨a8,h⟩
   ·obtain ⟨a9,b1,b2,b3,h⟩ := bq2 h
    refine rgs hc K7q [oN,oN,oN,some (.el (I a4)),oN,oN,oN,oN,oc (.bool a6),oN,oN,oN,oN,oN,some (.el (I a9)),oN,oN,oN,oN,oc (.bool b2),oN,oF] [(1,.ra 1 0),(3,I a0),(69,.bool (!b2))] (ai (ix a5) (cq (K8i _ _ a7) K2k (ar 4 (nF a8) (ai (ix b1) (ar 5 (nF a8) (cq (K8i _ _ b3) K2k (ar 2 (nF a8) tv))))))) ?_
    obtain rfl := os h
    exact Qd5.mk
   refine rgs hc K7q [oN,oN,oN,some (.el (I a4)),oN,oN,oN,oN,oc (.bool a6),oN,oN,o_,o_,o_,o_,o_,o_,o_,o_,o_,o_,oT] [(1,.ra 1 0),(3,I a0),(69,.bool true)] (ai (ix a5) (cq (K8i _ _ a7) K2k (ar 10 (neF (nT a8)) (ai (nT a8) tv)))) ?_
   obtain rfl := os h
   exact Qd5.mk
  clear a3
  refine ic h (fun b4 h => ?_) fun b4 h => ?_
  ·refine rs0 hc 1 [(2,.bool false)] [] ?_
   refine rt ?_
   obtain rfl := os h
   exact re [true]
  refine sk ?_
  refine K7o hc 3 [(1,.ra 1 0),(3,I (wr (a0 + 1)))] ?_
  refine Qd1 ?_
  exact (spec_l1Tables_l0_ih _ _ h c hc)
 refine xt 0 ?_
 refine Qcv ?_
 refine Qd2 ?_
 obtain rfl := os h
 exact iv []
def K9i (s0 : K02) : Option (Bool) :=
 ((
 (K8g (s0.fSize,2,16)) >>= fun a0 =>
 if a0 = true then
  if ((s0.fPlus.length : Int) != (wr (s0.fSize * s0.fSize))) = true then
  some (true)
  else
  if ((s0.fTimes.length : Int) != (wr (s0.fSize * s0.fSize))) = true then
  some (true)
  else
  some (((s0.fBelow.length : Int) != (wr (s0.fSize * s0.fSize))))
 else
  some (true)
 ) : Option (Bool)) >>= fun a1 =>
 if a1 = true then
 some false
 else
 (K9f (s0,0)) >>= fun fl => match fl with
 | .inl () =>
  some true
 | .inr r =>
  some r
def K9j (s0 : K02) (r : Bool) : Prop :=
 Q75 Tryz.prog 163 [K1h s0] (.bool r) []
theorem K9k : ∀ p r,K9i p = some r → K9j p r := by
 rintro s0 r h
 unfold K9i at h
 refine b0 Tryz.f163 K2u 70 [(0,K1h s0)] fun c hc => ?_
 refine rs hc none [some (.new 1),oN] [(1,.ra 1 0)] [(1,K1g s0)] tv ?_
 refine sN ?_
 refine sN ?_
 obtain ⟨a0,a1,h⟩ := Qdj h
 refine Wp.into (x := .normal) (mkS [(1,.ra 1 0),(40,.bool a0)] [(1,K1g s0)]) ?_ ?_
 ·replace h := a1
  obtain ⟨a2,a3,h⟩ := Qdj h
  rcases is h with ⟨a4,h⟩ | ⟨a4,h⟩
  ·rcases is h with ⟨a5,h⟩ | ⟨a5,h⟩
   ·refine rgs hc none [oN,oN,oc (.bool a2),oN,oN,oN,oN,some (.eqv (.no) ⟨[(11,I (s0.fPlus.length : Int))],[],[]⟩),oN,oN,oN,oN,oN,oN,oF,oN,o_,o_,o_,o_,o_,o_,o_,o_,o_,oT,oN,o_,o_,o_,o_,o_,o_,o_,o_,o_,oT] [(1,.ra 1 0),(40,.bool true)] (cq (K8i _ _ a3) K2k (ar 3 (nF a4) (ai (Qdp (d := 11) I s0.fPlus) (ar 7 (nF a4) (ar 9 (neF a5) (ai a5 (ar 9 nf (ai tt tv)))))))) ?_
    obtain rfl := os h
    exact Qd5.mk
   rcases is h with ⟨a6,h⟩ | ⟨a6,h⟩
   ·refine rgs hc none [oN,oN,oc (.bool a2),oN,oN,oN,oN,some (.eqv (.no) ⟨[(11,I (s0.fPlus.length : Int))],[],[]⟩),oN,oN,oN,oN,oN,oN,oF,oN,oN,oN,some (.eqv (.no) ⟨[(22,I (s0.fTimes.length : Int))],[],[]⟩),oN,oN,oN,oN,oN,oN,oF,oN,o_,o_,o_,o_,o_,o_,o_,o_,o_,oT] [(1,.ra 1 0),(40,.bool true)] (cq (K8i _ _ a3) K2k (ar 3 (nF a4) (ai (Qdp (d := 11) I s0.fPlus) (ar 7 (nF a4) (ar 3 a5 (ai (Qdp (d := 22) I s0.fTimes) (ar 7 a5 (ar 9 (neF a6) (ai a6 tv))))))))) ?_
    obtain rfl := os h
    exact Qd5.mk
   refine rgs hc none [oN,oN,oc (.bool a2),oN,oN,oN,oN,some (.eqv (.no) ⟨[(11,I (s0.fPlus.length : Int))],[],[]⟩),oN,oN,oN,oN,oN,oN,oF,oN,oN,oN,some (.eqv (.no) ⟨[(22,I (s0.fTimes.length : Int))],[],[]⟩),oN,oN,oN,oN,oN,oN,oF,oN,oN,oN,some (.eqv (.no) ⟨[(33,I (s0.fBelow.length : Int))],[],[]⟩),oN,oN,oN,oN,oN,oN,oF] [(1,.ra 1 0),(40,.bool ((s0.fBelow.length : Int) != (wr (s0.fSize * s0.fSize))))] (cq (K8i _ _ a3) K2k (ar 3 (nF a4) (ai (Qdp (d := 11) I s0.fPlus) (ar 7 (nF a4) (ar 3 a5 (ai (Qdp (d := 22) I s0.fTimes) (ar 7 a5 (ar 3 a6 (ai (Qdp (d := 33) AV.bool s0.fBelow) (ar 7 a6 tv)))))))))) ?_
   obtain rfl := os h
   exact Qd5.mk
  refine rgs hc none [oN,oN,oc (.bool a2),oN,oN,o_,o_,o_,o_,o_,o_,o_,o_,o_,oT,oN,o_,o_,o_,o_,o_,o_,o_,o_,o_,oT,oN,o_,o_,o_,o_,o_,o_,o_,o_,o_,oT] [(1,.ra 1 0),(40,.bool true)] (cq (K8i _ _ a3) K2k (ar 9 (neF (nT a4)) (ai (nT a4) (ar 9 nf (ai tt (ar 9 nf (ai tt tv))))))) ?_
  obtain rfl := os h
  exact Qd5.mk
 clear a1
 refine ic h (fun a7 h => ?_) fun a7 h => ?_
 ·refine rs0 hc 1 [(2,.bool false)] [] ?_
  refine rt ?_
  obtain rfl := os h
  exact rq [true]
 refine sk ?_
 refine sN ?_
 refine K7p hc 1 [(1,.ra 1 0),(3,I 0)] ?_
 refine bk 0 ?_
 obtain ⟨fl,a8,h⟩ := Qdj h
 have hL := K9h _ _ a8 c hc
 refine lp ?_
 rcases fl with ⟨⟩ | r
 ·refine WpL.into (e := (.exit 0)) (mkS [] []) hL ?_
  refine Qcx ?_
  refine rs0 hc 1 [(2,.bool true)] [] ?_
  refine rt ?_
  obtain rfl := os h
  exact rq [true]
 refine WpL.mono hL ?_
 rintro _ _ ⟨rfl,hfin⟩
 obtain rfl := os h
 exact ⟨.inl rfl,hfin⟩
def K9l : Option (List (List Nat)) := rh [0,0,0,3,0,0,0,7,8,9,10,10,12,13,14,14,14,17,18,19,20,21,21,21,24,25,26,27,28,29,29,29,32,33,34,35]
def K9m : Option (List (List Nat)) := rx [[0],[0],[0],[0],[0,1,2,3],[0],[6],[0],[0],[0],[0],[0],[7,9,10,11],[13],[14],[15],[16],[16],[16],[16],[16,17,18,19],[16],[22],[16],[16],[16],[16],[16],[23,25,26,27],[29],[30],[31]]
def K9n : Option (List (List Nat)) := rx [[0],[0],[0],[0],[0],[0,2,3,4],[6],[0],[0],[0],[0],[7,8,9,10],[0],[0],[0],[7,8,9,10,11,12,13,14],[16],[17],[18],[19],[19],[19],[19],[19,20,21,22],[19],[25],[19],[19],[19],[19],[26,27,28,29],[19],[19],[19],[26,27,28,29,30,31,32,33],[35],[36],[37]]
def K9o : Option (List (List Nat)) := rx [[0],[0],[0],[0],[0,1,2,3],[0],[0],[0],[0,1,2,3,4,5,6,7],[9],[10],[11],[11],[11],[11],[11,12,13,14],[11],[11],[11],[11,12,13,14,15,16,17,18],[20],[21],[22],[23],[23],[23],[23],[23,24,25,26],[23],[23],[23],[23,24,25,26,27,28,29,30],[32],[33],[34]]
def K9p (p : K02 × Int × Int) : Option (Int) :=
 match p with
 | (s0,a1,b2) =>
  (idx s0.fPlus (wr ((wr (a1 * s0.fSize)) + b2))) >>= fun a0 =>
  some a0
def K9q (p : K02 × Int × Int) (r : Int) : Prop :=
 match p with
 | (s0,a1,b2) => Q75 Tryz.prog 211 [K1h s0,I a1,I b2] (I r) []
theorem K9r : ∀ p r,K9p p = some r → K9q p r := by
 rintro ⟨s0,a1,b2⟩ r h
 unfold K9p at h
 refine b0 Tryz.f211 K2w 17 [(0,K1h s0),(1,I a1),(2,I b2)] fun c hc => ?_
 refine rs hc none [some (.new 1),oN] [(1,I a1),(2,I b2),(3,.ra 1 0)] [(1,K1g s0)] tv ?_
 obtain ⟨a0,a2,h⟩ := Qdj h
 refine rs hc none [oN,oN,oN,oN,oN,oN,oN,oN,some (.el (I a0)),oN,oN] [(6,I a0)] [] (ai (ix a2) tv) ?_
 refine rt ?_
 obtain rfl := os h
 exact rq [true]
def K9s (p : K02 × Int × Int) : Option (Int) :=
 match p with
 | (s0,a1,b2) =>
  (idx s0.fTimes (wr ((wr (a1 * s0.fSize)) + b2))) >>= fun a0 =>
  some a0
def K9t (p : K02 × Int × Int) (r : Int) : Prop :=
 match p with
 | (s0,a1,b2) => Q75 Tryz.prog 212 [K1h s0,I a1,I b2] (I r) []
theorem K9u : ∀ p r,K9s p = some r → K9t p r := by
 rintro ⟨s0,a1,b2⟩ r h
 unfold K9s at h
 refine b0 Tryz.f212 K2y 17 [(0,K1h s0),(1,I a1),(2,I b2)] fun c hc => ?_
 refine rs hc none [some (.new 1),oN] [(1,I a1),(2,I b2),(3,.ra 1 0)] [(1,K1g s0)] tv ?_
 obtain ⟨a0,a2,h⟩ := Qdj h
 refine rs hc none [oN,oN,oN,oN,oN,oN,oN,oN,some (.el (I a0)),oN,oN] [(6,I a0)] [] (ai (ix a2) tv) ?_
 refine rt ?_
 obtain rfl := os h
 exact rq [true]
def K9v (p : K02 × Int × Int) : Option (Bool) :=
 match p with
 | (s0,a1,b2) =>
  (idx s0.fBelow (wr ((wr (a1 * s0.fSize)) + b2))) >>= fun a0 =>
  some a0
def K9w (p : K02 × Int × Int) (r : Bool) : Prop :=
 match p with
 | (s0,a1,b2) => Q75 Tryz.prog 202 [K1h s0,I a1,I b2] (.bool r) []
theorem K9x : ∀ p r,K9v p = some r → K9w p r := by
 rintro ⟨s0,a1,b2⟩ r h
 unfold K9v at h
 refine b0 Tryz.f202 K30 17 [(0,K1h s0),(1,I a1),(2,I b2)] fun c hc => ?_
 refine rs hc none [some (.new 1),oN] [(1,I a1),(2,I b2),(3,.ra 1 0)] [(1,K1g s0)] tv ?_
 obtain ⟨a0,a2,h⟩ := Qdj h
 refine rs hc none [oN,oN,oN,oN,oN,oN,oN,oN,some (.el (.bool a0)),oN,oN] [(6,.bool a0)] [] (ai (Qdn (enc := AV.bool) (x := .bool a0) a2 (Qe0 a0)) tv) ?_
 refine rt ?_
 obtain rfl := os h
 exact rq [true]
def K9y (p : K02 × Int) : Option (Bool) :=
 match p with
 | (s0,a1) =>
  ((
  (K9p (s0,0,a1)) >>= fun a0 =>
  if (a0 == a1) = true then
  (K9s (s0,1,a1)) >>= fun a2 =>
  if (a2 == a1) = true then
  (K9s (s0,a1,1)) >>= fun a3 =>
  if (a3 == a1) = true then
  (K9s (s0,0,a1)) >>= fun a4 =>
  if (a4 == 0) = true then
  (K9s (s0,a1,0)) >>= fun a5 =>
  if (a5 == 0) = true then
  (K9v (s0,a1,a1)) >>= fun a6 =>
  some (a6)
  else
  some (false)
  else
  some (false)
  else
  some (false)
  else
  some (false)
  else
  some (false)
  ) : Option (Bool)) >>= fun a7 =>
  some a7
def K9z (p : K02 × Int) (r : Bool) : Prop :=
 match p with
 | (s0,a1) => Q75 Tryz.prog 164 [K1h s0,I a1] (.bool r) []
theorem Ka0 : ∀ p r,K9y p = some r → K9z p r := by
 rintro ⟨s0,a1⟩ r h
 unfold K9y at h
 refine b0 Tryz.f164 K32 42 [(0,K1h s0),(1,I a1)] fun c hc => ?_
 refine rs hc none [some (.new 1),oN] [(1,I a1),(2,.ra 1 0)] [(1,K1g s0)] tv ?_
 refine sN ?_
 obtain ⟨a0,a2,h⟩ := Qdj h
 refine Wp.into (x := .normal) (mkS [(4,.bool a0)] []) ?_ ?_
 ·replace h := a2
  obtain ⟨a3,a4,h⟩ := Qdj h
  rcases is h with ⟨a5,h⟩ | ⟨a5,h⟩
  ·obtain ⟨a6,a7,h⟩ := Qdj h
   rcases is h with ⟨a8,h⟩ | ⟨a8,h⟩
   ·obtain ⟨a9,b1,h⟩ := Qdj h
    rcases is h with ⟨b2,h⟩ | ⟨b2,h⟩
    ·obtain ⟨b3,b4,h⟩ := Qdj h
     rcases is h with ⟨b5,h⟩ | ⟨b5,h⟩
     ·obtain ⟨b6,b7,h⟩ := Qdj h
      rcases is h with ⟨b8,h⟩ | ⟨b8,h⟩
      ·obtain ⟨b9,c0,h⟩ := Qdj h
       refine rg hc none [oN,oN,oc (I a3),oN,oN,oN,oN,oN,oc (I a6),oN,oN,oT,oN,oN,oN,oc (I a9),oN,oN,oT,oN,oN,oN,oc (I b3),oN,oT,oN,oN,oN,oc (I b6),oN,oT,oN,oN,oN,oN,oc (.bool b9),oT,oN] [(4,.bool b9)] [] (cq (K9r _ _ a4) K2x (ar 3 a5 (cq (K9u _ _ a7) K2z (ar 3 a5 (ar 3 a8 (cq (K9u _ _ b1) K2z (ar 3 a8 (ar 3 b2 (cq (K9u _ _ b4) K2z (ar 2 b2 (ar 3 b5 (cq (K9u _ _ b7) K2z (ar 2 b5 (ar 4 b8 (cq (K9x _ _ c0) K31 (ai b8 tv)))))))))))))))) ?_
       obtain rfl := os h
       exact Qd5.mk
      refine rg hc none [oN,oN,oc (I a3),oN,oN,oN,oN,oN,oc (I a6),oN,oN,oT,oN,oN,oN,oc (I a9),oN,oN,oT,oN,oN,oN,oc (I b3),oN,oT,oN,oN,oN,oc (I b6),oN,oT,oN,o_,o_,o_,o_,oF,oN] [(4,.bool false)] [] (cq (K9r _ _ a4) K2x (ar 3 a5 (cq (K9u _ _ a7) K2z (ar 3 a5 (ar 3 a8 (cq (K9u _ _ b1) K2z (ar 3 a8 (ar 3 b2 (cq (K9u _ _ b4) K2z (ar 2 b2 (ar 3 b5 (cq (K9u _ _ b7) K2z (ar 2 b5 (ar 4 (neT b8) (ai b8 tv))))))))))))))) ?_
      obtain rfl := os h
      exact Qd5.mk
     refine rg hc none [oN,oN,oc (I a3),oN,oN,oN,oN,oN,oc (I a6),oN,oN,oT,oN,oN,oN,oc (I a9),oN,oN,oT,oN,oN,oN,oc (I b3),oN,oT,oN,o_,o_,o_,o_,oF,oN,o_,o_,o_,o_,oF,oN] [(4,.bool false)] [] (cq (K9r _ _ a4) K2x (ar 3 a5 (cq (K9u _ _ a7) K2z (ar 3 a5 (ar 3 a8 (cq (K9u _ _ b1) K2z (ar 3 a8 (ar 3 b2 (cq (K9u _ _ b4) K2z (ar 2 b2 (ar 4 (neT b5) (ai b5 (ar 4 (neT (rfl : false = false)) (ai (rfl : false = false) tv)))))))))))))) ?_
     obtain rfl := os h
     exact Qd5.mk
    refine rg hc none [oN,oN,oc (I a3),oN,oN,oN,oN,oN,oc (I a6),oN,oN,oT,oN,oN,oN,oc (I a9),oN,oN,oT,oN,o_,o_,o_,o_,oF,oN,o_,o_,o_,o_,oF,oN,o_,o_,o_,o_,oF,oN] [(4,.bool false)] [] (cq (K9r _ _ a4) K2x (ar 3 a5 (cq (K9u _ _ a7) K2z (ar 3 a5 (ar 3 a8 (cq (K9u _ _ b1) K2z (ar 3 a8 (ar 4 (neT b2) (ai b2 (ar 4 (neT (rfl : false = false)) (ai (rfl : false = false) (ar 4 (neT (rfl : false = false)) (ai (rfl : false = false) tv))))))))))))) ?_
    obtain rfl := os h
    exact Qd5.mk
   refine rg hc none [oN,oN,oc (I a3),oN,oN,oN,oN,oN,oc (I a6),oN,oN,oT,oN,o_,o_,o_,o_,o_,oF,oN,o_,o_,o_,o_,oF,oN,o_,o_,o_,o_,oF,oN,o_,o_,o_,o_,oF,oN] [(4,.bool false)] [] (cq (K9r _ _ a4) K2x (ar 3 a5 (cq (K9u _ _ a7) K2z (ar 3 a5 (ar 5 (neT a8) (ai a8 (ar 4 (neT (rfl : false = false)) (ai (rfl : false = false) (ar 4 (neT (rfl : false = false)) (ai (rfl : false = false) (ar 4 (neT (rfl : false = false)) (ai (rfl : false = false) tv)))))))))))) ?_
   obtain rfl := os h
   exact Qd5.mk
  refine rg hc none [oN,oN,oc (I a3),oN,oN,oN,o_,o_,o_,o_,o_,oF,oN,o_,o_,o_,o_,o_,oF,oN,o_,o_,o_,o_,oF,oN,o_,o_,o_,o_,oF,oN,o_,o_,o_,o_,oF,oN] [(4,.bool false)] [] (cq (K9r _ _ a4) K2x (ar 5 (neT a5) (ai a5 (ar 5 (neT (rfl : false = false)) (ai (rfl : false = false) (ar 4 (neT (rfl : false = false)) (ai (rfl : false = false) (ar 4 (neT (rfl : false = false)) (ai (rfl : false = false) (ar 4 (neT (rfl : false = false)) (ai (rfl : false = false) tv))))))))))) ?_
  obtain rfl := os h
  exact Qd5.mk
 clear a2
 refine rt ?_
 obtain rfl := os h
 exact rq [true]
def Ka1 (c : Ctx) (s0 : K02) (a1 : Int) (b2 : Int) (a0 : Int) : Bool → Exit → Q0a → Prop
 | a2 => Qd5 c (.exit 2) (mkS [(1,I a1),(2,I b2),(3,.ra 1 0),(7,I a0),(8,.bool a2)] [(1,K1g s0)])
def Ka2 (p : K02 × Int × Int × Int × Bool × Int) : Option (Bool) :=
 match p with
 | (s0,a1,b2,a0,a2,a3) =>
  ((
  if (decide (a3 < s0.fSize)) = true then
  some (a2)
  else
  some (false)
  ) : Option (Bool)) >>= fun a4 =>
  if a4 = true then
  ((
  (K9v (s0,a1,a3)) >>= fun a5 =>
  if a5 = true then
  (K9v (s0,b2,a3)) >>= fun a6 =>
  if a6 = true then
  (K9v (s0,a0,a3)) >>= fun a7 =>
  some (a7)
  else
  some (true)
  else
  some (true)
  ) : Option (Bool)) >>= fun a8 =>
  Ka2 (s0,a1,b2,a0,a8,(wr (a3 + 1)))
  else
  some (a2)
 partial_fixpoint
def Ka3 (p : K02 × Int × Int × Int × Bool × Int) (fl : Bool) : Prop :=
 match p with
 | (s0,a1,b2,a0,a2,a3) => ∀ c : Ctx,c.nt = 55 → WpL Tryz.prog c (cl (cl (cr (cl (cr (cl (cl (cr (cl (cl (cr (cl (cr K34))))))))))))) (Ka1 c s0 a1 b2 a0 fl) (mkS [(1,I a1),(2,I b2),(3,.ra 1 0),(7,I a0),(8,.bool a2),(9,I a3)] [(1,K1g s0)])
theorem Ka4 : ∀ p r,Ka2 p = some r → Ka3 p r := by
 refine Ka2.partial_correctness Ka3 ?_
 rintro spec_l1Join_l0_f spec_l1Join_l0_ih ⟨s0,a1,b2,a0,a2,a3⟩ r h
 intro c hc
 refine WpL.step ?_
 refine sN ?_
 refine sN ?_
 obtain ⟨a4,a5,h⟩ := Qdj h
 refine Wp.into (x := .normal) (mkS [(1,I a1),(2,I b2),(3,.ra 1 0),(7,I a0),(8,.bool a2),(9,I a3),(32,.bool a4)] [(1,K1g s0)]) ?_ ?_
 ·replace h := a5
  rcases is h with ⟨a6,h⟩ | ⟨a6,h⟩
  ·refine rgs hc none [oN,oN,oN,oN,oN,oN,oT] [(1,I a1),(2,I b2),(3,.ra 1 0),(7,I a0),(8,.bool a2),(9,I a3),(32,.bool a2)] (ar 2 a6 tv) ?_
   obtain rfl := os h
   exact Qd5.mk
  refine rgs hc none [oN,oN,oN,oN,oN,o_,oF] [(1,I a1),(2,I b2),(3,.ra 1 0),(7,I a0),(8,.bool a2),(9,I a3),(32,.bool false)] (ab (neT a6) a6 tv) ?_
  obtain rfl := os h
  exact Qd5.mk
 clear a5
 refine ic h (fun a7 h => ?_) fun a7 h => ?_
 ·refine sk ?_
  refine sN ?_
  refine bk 3 ?_
  obtain ⟨a8,a9,h⟩ := Qdj h
  refine Wp.into (x := .normal) (mkS [(1,I a1),(2,I b2),(3,.ra 1 0),(7,I a0),(8,.bool a8),(9,I a3)] [(1,K1g s0)]) ?_ ?_
  ·replace h := a9
   obtain ⟨b1,b3,h⟩ := Qdj h
   rcases is h with ⟨b4,h⟩ | ⟨b4,h⟩
   ·obtain ⟨b5,b6,h⟩ := Qdj h
    rcases is h with ⟨b7,h⟩ | ⟨b7,h⟩
    ·obtain ⟨b8,b9,h⟩ := Qdj h
     refine rgs hc none [oN,oN,oN,oc (.bool b1),oN,oN,oN,oN,oN,oc (.bool b5),oN,oF,oN,oN,oN,oN,oc (.bool b8),oF,oN] [(1,I a1),(2,I b2),(3,.ra 1 0),(7,I a0),(8,.bool b8),(9,I a3)] (cq (K9x _ _ b3) K31 (ar 4 (nF b4) (cq (K9x _ _ b6) K31 (ar 2 (nF b4) (ar 4 (nF b7) (cq (K9x _ _ b9) K31 (ai (nF b7) tv))))))) ?_
     obtain rfl := os h
     exact Qd5.mk
    refine rgs hc none [oN,oN,oN,oc (.bool b1),oN,oN,oN,oN,oN,oc (.bool b5),oN,oF,oN,o_,o_,o_,o_,oT,oN] [(1,I a1),(2,I b2),(3,.ra 1 0),(7,I a0),(8,.bool true),(9,I a3)] (cq (K9x _ _ b3) K31 (ar 4 (nF b4) (cq (K9x _ _ b6) K31 (ar 2 (nF b4) (ar 4 (neF (nT b7)) (ai (nT b7) tv)))))) ?_
    obtain rfl := os h
    exact Qd5.mk
   refine rgs hc none [oN,oN,oN,oc (.bool b1),oN,oN,o_,o_,o_,o_,o_,oT,oN,o_,o_,o_,o_,oT,oN] [(1,I a1),(2,I b2),(3,.ra 1 0),(7,I a0),(8,.bool true),(9,I a3)] (cq (K9x _ _ b3) K31 (ar 5 (neF (nT b4)) (ai (nT b4) (ar 4 nf (ai tt tv))))) ?_
   obtain rfl := os h
   exact Qd5.mk
  clear a9
  refine K7o hc 3 [(1,I a1),(2,I b2),(3,.ra 1 0),(7,I a0),(8,.bool a8),(9,I (wr (a3 + 1)))] ?_
  refine Qd1 ?_
  exact (spec_l1Join_l0_ih _ _ h c hc)
 refine xt 2 ?_
 refine Qcv ?_
 refine Qd2 ?_
 obtain rfl := os h
 exact iv []
def Ka5 (c : Ctx) : (Unit) ⊕ (Int) → Exit → Q0a → Prop
 | .inl _ => Qd5 c (.exit 0) (mkS [] [])
 | .inr r => Qde TIx Tryz.f214 [] (I r)
def Ka6 (p : K02 × Int × Int × Int) : Option ((Unit) ⊕ (Int)) :=
 match p with
 | (s0,a1,b2,a0) =>
  if (decide (a0 < s0.fSize)) = true then
  ((
  (K9v (s0,a1,a0)) >>= fun a2 =>
  if a2 = true then
  (K9v (s0,b2,a0)) >>= fun a3 =>
  some (a3)
  else
  some (false)
  ) : Option (Bool)) >>= fun a4 =>
  (Ka2 (s0,a1,b2,a0,a4,0)) >>= fun a5 =>
  if a5 = true then
  some (.inr a0)
  else
  Ka6 (s0,a1,b2,(wr (a0 + 1)))
  else
  some (.inl ())
 partial_fixpoint
def Ka7 (p : K02 × Int × Int × Int) (fl : (Unit) ⊕ (Int)) : Prop :=
 match p with
 | (s0,a1,b2,a0) => ∀ c : Ctx,c.nt = 55 → WpL Tryz.prog c (cl (cl (cr (cl (cr K34))))) (Ka5 c fl) (mkS [(1,I a1),(2,I b2),(3,.ra 1 0),(7,I a0)] [(1,K1g s0)])
theorem Ka8 : ∀ p r,Ka6 p = some r → Ka7 p r := by
 refine Ka6.partial_correctness Ka7 ?_
 rintro spec_l1Join_l1_f spec_l1Join_l1_ih ⟨s0,a1,b2,a0⟩ r h
 intro c hc
 refine WpL.step ?_
 refine sN ?_
 refine K7p hc 4 [(1,I a1),(2,I b2),(3,.ra 1 0),(7,I a0),(13,.bool (decide (a0 < s0.fSize)))] ?_
 refine ic h (fun a2 h => ?_) fun a2 h => ?_
 ·refine sk ?_
  refine sN ?_
  refine bk 1 ?_
  refine sN ?_
  obtain ⟨a3,a4,h⟩ := Qdj h
  refine Wp.into (x := .normal) (mkS [(1,I a1),(2,I b2),(3,.ra 1 0),(7,I a0),(8,.bool a3)] [(1,K1g s0)]) ?_ ?_
  ·replace h := a4
   obtain ⟨a5,a6,h⟩ := Qdj h
   rcases is h with ⟨a7,h⟩ | ⟨a7,h⟩
   ·obtain ⟨a8,a9,h⟩ := Qdj h
    refine rgs hc none [oN,oN,oN,oc (.bool a5),oN,oN,oN,oN,oc (.bool a8),oT,oN] [(1,I a1),(2,I b2),(3,.ra 1 0),(7,I a0),(8,.bool a8)] (cq (K9x _ _ a6) K31 (ar 4 a7 (cq (K9x _ _ a9) K31 (ai a7 tv)))) ?_
    obtain rfl := os h
    exact Qd5.mk
   refine rgs hc none [oN,oN,oN,oc (.bool a5),oN,o_,o_,o_,o_,oF,oN] [(1,I a1),(2,I b2),(3,.ra 1 0),(7,I a0),(8,.bool false)] (cq (K9x _ _ a6) K31 (ar 4 (neT a7) (ai a7 tv))) ?_
   obtain rfl := os h
   exact Qd5.mk
  clear a4
  refine sN ?_
  refine K7p hc 1 [(1,I a1),(2,I b2),(3,.ra 1 0),(7,I a0),(8,.bool a3),(9,I 0)] ?_
  refine bk 2 ?_
  obtain ⟨b1,b3,h⟩ := Qdj h
  have hL := Ka4 _ _ b3 c hc
  refine lp ?_
  refine WpL.into (e := (.exit 2)) (mkS [(1,I a1),(2,I b2),(3,.ra 1 0),(7,I a0),(8,.bool b1)] [(1,K1g s0)]) hL ?_
  refine Qcx ?_
  refine K7p hc 1 [(1,I a1),(2,I b2),(3,.ra 1 0),(7,I a0),(53,.bool b1)] ?_
  refine ic h (fun b4 h => ?_) fun b4 h => ?_
  ·refine rs0 hc 2 [(6,I a0)] [] ?_
   refine rt ?_
   obtain rfl := os h
   exact re [true]
  refine sk ?_
  refine K7o hc 3 [(1,I a1),(2,I b2),(3,.ra 1 0),(7,I (wr (a0 + 1)))] ?_
  refine Qd1 ?_
  exact (spec_l1Join_l1_ih _ _ h c hc)
 refine xt 0 ?_
 refine Qcv ?_
 refine Qd2 ?_
 obtain rfl := os h
 exact iv []
def Ka9 (p : K02 × Int × Int) : Option (Int) :=
 match p with
 | (s0,a1,b2) =>
  (Ka6 (s0,a1,b2,0)) >>= fun fl => match fl with
  | .inl () =>
   some (-1)
  | .inr r =>
   some r
def Kaa (p : K02 × Int × Int) (r : Int) : Prop :=
 match p with
 | (s0,a1,b2) => Q75 Tryz.prog 214 [K1h s0,I a1,I b2] (I r) []
theorem Kab : ∀ p r,Ka9 p = some r → Kaa p r := by
 rintro ⟨s0,a1,b2⟩ r h
 unfold Ka9 at h
 refine b0 Tryz.f214 K34 55 [(0,K1h s0),(1,I a1),(2,I b2)] fun c hc => ?_
 refine rs hc none [some (.new 1),oN] [(1,I a1),(2,I b2),(3,.ra 1 0)] [(1,K1g s0)] tv ?_
 refine sN ?_
 refine K7p hc 1 [(1,I a1),(2,I b2),(3,.ra 1 0),(7,I 0)] ?_
 refine bk 0 ?_
 obtain ⟨fl,a0,h⟩ := Qdj h
 have hL := Ka8 _ _ a0 c hc
 refine lp ?_
 rcases fl with ⟨⟩ | r
 ·refine WpL.into (e := (.exit 0)) (mkS [] []) hL ?_
  refine Qcx ?_
  refine rs0 hc 1 [(6,I (-1))] [] ?_
  refine rt ?_
  obtain rfl := os h
  exact rq [true]
 refine WpL.mono hL ?_
 rintro _ _ ⟨rfl,hfin⟩
 obtain rfl := os h
 exact ⟨.inl rfl,hfin⟩
def Kac (p : K02 × Int × Int) : Option (Bool) :=
 match p with
 | (s0,a1,b2) =>
  ((
  (K9p (s0,a1,b2)) >>= fun a0 =>
  (K9p (s0,b2,a1)) >>= fun a2 =>
  if (a0 == a2) = true then
  if (a1 == b2) = true then
  (Ka9 (s0,a1,b2)) >>= fun a3 =>
  some ((decide (a3 ≥ 0)))
  else
  (K9v (s0,a1,b2)) >>= fun a4 =>
  if a4 = true then
  (K9v (s0,b2,a1)) >>= fun a5 =>
  if a5 = true then
  some (false)
  else
  (Ka9 (s0,a1,b2)) >>= fun a3 =>
  some ((decide (a3 ≥ 0)))
  else
  (Ka9 (s0,a1,b2)) >>= fun a3 =>
  some ((decide (a3 ≥ 0)))
  else
  some (false)
  ) : Option (Bool)) >>= fun a6 =>
  some a6
def Kad (p : K02 × Int × Int) (r : Bool) : Prop :=
 match p with
 | (s0,a1,b2) => Q75 Tryz.prog 165 [K1h s0,I a1,I b2] (.bool r) []
theorem Kae : ∀ p r,Kac p = some r → Kad p r := by
 rintro ⟨s0,a1,b2⟩ r h
 unfold Kac at h
 refine b0 Tryz.f165 K36 42 [(0,K1h s0),(1,I a1),(2,I b2)] fun c hc => ?_
 refine rs hc none [some (.new 1),oN] [(1,I a1),(2,I b2),(3,.ra 1 0)] [(1,K1g s0)] tv ?_
 refine sN ?_
 obtain ⟨a0,a2,h⟩ := Qdj h
 refine Wp.into (x := .normal) (mkS [(6,.bool a0)] []) ?_ ?_
 ·replace h := a2
  obtain ⟨a3,a4,a5,a6,h⟩ := bq2 h
  rcases is h with ⟨a7,h⟩ | ⟨a7,h⟩
  ·rcases is h with ⟨a8,h⟩ | ⟨a8,h⟩
   ·obtain ⟨a9,b1,h⟩ := Qdj h
    refine rg hc K9l [oN,oN,oN,oc (I a3),oN,oN,oN,oc (I a5),oN,oN,oN,oN,oN,oN,o_,o_,o_,o_,o_,oT,oN,o_,o_,o_,o_,o_,oT,oT,oN,oN,oN,oN,oc (I a9),oN,oT,oN] [(6,.bool (decide (a9 ≥ 0)))] [] (cq (K9r _ _ a4) K2x (cq (K9r _ _ a6) K2x (ar 4 a7 (ar 5 (neF a8) (ac a7 a8 a7 (ar 5 nf (ac a7 tt a7 (ar 4 tt (cq (Kab _ _ b1) K35 (ar 2 tt tv)))))))))) ?_
    obtain rfl := os h
    exact Qd5.mk
   obtain ⟨b3,b4,h⟩ := Qdj h
   rcases is h with ⟨b5,h⟩ | ⟨b5,h⟩
   ·obtain ⟨b6,b7,h⟩ := Qdj h
    rcases is h with ⟨b8,h⟩ | ⟨b8,h⟩
    ·refine rg hc K9l [oN,oN,oN,oc (I a3),oN,oN,oN,oc (I a5),oN,oN,oN,oN,oN,oN,oN,oN,oN,oc (.bool b3),oN,oF,oN,oN,oN,oN,oc (.bool b6),oN,oF,oT,oN,o_,o_,o_,o_,o_,oF,oN] [(6,.bool false)] [] (cq (K9r _ _ a4) K2x (cq (K9r _ _ a6) K2x (ar 4 a7 (ar 4 a8 (cq (K9x _ _ b4) K31 (ad a8 a7 a8 a7 (ar 4 (nF b5) (cq (K9x _ _ b7) K31 (ad (nF b5) a7 (nF b5) a7 (ar 5 (neT (nF b8)) (ai (nF b8) tv))))))))))) ?_
     obtain rfl := os h
     exact Qd5.mk
    obtain ⟨a9,b1,h⟩ := Qdj h
    refine rg hc K9l [oN,oN,oN,oc (I a3),oN,oN,oN,oc (I a5),oN,oN,oN,oN,oN,oN,oN,oN,oN,oc (.bool b3),oN,oF,oN,oN,oN,oN,oc (.bool b6),oN,oF,oT,oN,oN,oN,oN,oc (I a9),oN,oT,oN] [(6,.bool (decide (a9 ≥ 0)))] [] (cq (K9r _ _ a4) K2x (cq (K9r _ _ a6) K2x (ar 4 a7 (ar 4 a8 (cq (K9x _ _ b4) K31 (ad a8 a7 a8 a7 (ar 4 (nF b5) (cq (K9x _ _ b7) K31 (ad (nF b5) a7 (nF b5) a7 (ar 4 (nT b8) (cq (Kab _ _ b1) K35 (ar 2 (nT b8) tv)))))))))))) ?_
    obtain rfl := os h
    exact Qd5.mk
   obtain ⟨a9,b1,h⟩ := Qdj h
   refine rg hc K9l [oN,oN,oN,oc (I a3),oN,oN,oN,oc (I a5),oN,oN,oN,oN,oN,oN,oN,oN,oN,oc (.bool b3),oN,oF,oN,o_,o_,o_,o_,o_,oT,oT,oN,oN,oN,oN,oc (I a9),oN,oT,oN] [(6,.bool (decide (a9 ≥ 0)))] [] (cq (K9r _ _ a4) K2x (cq (K9r _ _ a6) K2x (ar 4 a7 (ar 4 a8 (cq (K9x _ _ b4) K31 (ad a8 a7 a8 a7 (ar 5 (neF (nT b5)) (ac a7 (nT b5) a7 (ar 4 tt (cq (Kab _ _ b1) K35 (ar 2 tt tv))))))))))) ?_
   obtain rfl := os h
   exact Qd5.mk
  refine rg hc K9l [oN,oN,oN,oc (I a3),oN,oN,oN,oc (I a5),oN,oN,o_,o_,o_,o_,o_,o_,o_,o_,o_,o_,o_,o_,o_,o_,o_,o_,o_,oF,oN,o_,o_,o_,o_,o_,oF,oN] [(6,.bool false)] [] (cq (K9r _ _ a4) K2x (cq (K9r _ _ a6) K2x (ar 7 (neT a7) (ai a7 (ar 5 (neT (rfl : false = false)) (ai (rfl : false = false) tv)))))) ?_
  obtain rfl := os h
  exact Qd5.mk
 clear a2
 refine rt ?_
 obtain rfl := os h
 exact rq [true]
def Kaf (p : K02 × Int × Int × Int) : Option (Bool) :=
 match p with
 | (s0,a1,b2,c3) =>
  ((
  (K9p (s0,a1,b2)) >>= fun a0 =>
  (K9p (s0,a0,c3)) >>= fun a2 =>
  (K9p (s0,b2,c3)) >>= fun a3 =>
  (K9p (s0,a1,a3)) >>= fun a4 =>
  if (a2 != a4) = true then
  some (true)
  else
  (K9s (s0,a1,b2)) >>= fun a5 =>
  (K9s (s0,a5,c3)) >>= fun a6 =>
  (K9s (s0,b2,c3)) >>= fun a7 =>
  (K9s (s0,a1,a7)) >>= fun a8 =>
  some ((a6 != a8))
  ) : Option (Bool)) >>= fun a9 =>
  if a9 = true then
  some false
  else
  ((
  (K9p (s0,b2,c3)) >>= fun b1 =>
  (K9s (s0,a1,b1)) >>= fun b3 =>
  (K9s (s0,a1,b2)) >>= fun b4 =>
  (K9s (s0,a1,c3)) >>= fun b5 =>
  (K9p (s0,b4,b5)) >>= fun b6 =>
  if (b3 != b6) = true then
  some (true)
  else
  (K9p (s0,a1,b2)) >>= fun b7 =>
  (K9s (s0,b7,c3)) >>= fun b8 =>
  (K9s (s0,a1,c3)) >>= fun b9 =>
  (K9s (s0,b2,c3)) >>= fun c0 =>
  (K9p (s0,b9,c0)) >>= fun c1 =>
  some ((b8 != c1))
  ) : Option (Bool)) >>= fun c2 =>
  if c2 = true then
  some false
  else
  (K9v (s0,a1,b2)) >>= fun c4 =>
  if c4 = true then
  ((
  (K9v (s0,b2,c3)) >>= fun c5 =>
  if c5 = true then
  (K9v (s0,a1,c3)) >>= fun c6 =>
  some ((!c6))
  else
  some (false)
  ) : Option (Bool)) >>= fun c7 =>
  if c7 = true then
  some false
  else
  ((
  (K9p (s0,a1,c3)) >>= fun c8 =>
  (K9p (s0,b2,c3)) >>= fun c9 =>
  (K9v (s0,c8,c9)) >>= fun d0 =>
  if d0 = true then
  (K9s (s0,a1,c3)) >>= fun d1 =>
  (K9s (s0,b2,c3)) >>= fun d2 =>
  (K9v (s0,d1,d2)) >>= fun d3 =>
  if d3 = true then
  (K9s (s0,c3,a1)) >>= fun d4 =>
  (K9s (s0,c3,b2)) >>= fun d5 =>
  (K9v (s0,d4,d5)) >>= fun d6 =>
  some (d6)
  else
  some (false)
  else
  some (false)
  ) : Option (Bool)) >>= fun d7 =>
  some d7
  else
  some true
def Kag (p : K02 × Int × Int × Int) (r : Bool) : Prop :=
 match p with
 | (s0,a1,b2,c3) => Q75 Tryz.prog 166 [K1h s0,I a1,I b2,I c3] (.bool r) []
theorem Kah : ∀ p r,Kaf p = some r → Kag p r := by
 rintro ⟨s0,a1,b2,c3⟩ r h
 unfold Kaf at h
 refine b0 Tryz.f166 K38 129 [(0,K1h s0),(1,I a1),(2,I b2),(3,I c3)] fun c hc => ?_
 refine rs hc none [some (.new 1),oN] [(1,I a1),(2,I b2),(3,I c3),(4,.ra 1 0)] [(1,K1g s0)] tv ?_
 refine sN ?_
 refine sN ?_
 obtain ⟨a0,a2,h⟩ := Qdj h
 refine Wp.into (x := .normal) (mkS [(1,I a1),(2,I b2),(3,I c3),(4,.ra 1 0),(40,.bool a0)] [(1,K1g s0)]) ?_ ?_
 ·replace h := a2
  obtain ⟨a3,a4,a5,a6,a7,a8,a9,b1,h⟩ := bq4 h
  rcases is h with ⟨b3,h⟩ | ⟨b3,h⟩
  ·refine rgs hc K9m [oN,oN,oN,oN,oc (I a3),oN,oc (I a5),oN,oN,oN,oN,oN,oc (I a7),oc (I a9),oN,oN,o_,o_,o_,o_,o_,o_,o_,o_,o_,o_,o_,o_,o_,o_,o_,oT] [(1,I a1),(2,I b2),(3,I c3),(4,.ra 1 0),(40,.bool true)] (cq (K9r _ _ a4) K2x (cq (K9r _ _ a6) K2x (cq (K9r _ _ a8) K2x (cq (K9r _ _ b1) K2x (ar 15 (neF b3) (ai b3 tv)))))) ?_
   obtain rfl := os h
   exact Qd5.mk
  obtain ⟨b4,b5,b6,b7,b8,b9,c0,c1,h⟩ := bq4 h
  refine rgs hc K9m [oN,oN,oN,oN,oc (I a3),oN,oc (I a5),oN,oN,oN,oN,oN,oc (I a7),oc (I a9),oN,oN,oN,oN,oN,oN,oc (I b4),oN,oc (I b6),oN,oN,oN,oN,oN,oc (I b8),oc (I c0),oN,oF] [(1,I a1),(2,I b2),(3,I c3),(4,.ra 1 0),(40,.bool (b6 != c0))] (cq (K9r _ _ a4) K2x (cq (K9r _ _ a6) K2x (cq (K9r _ _ a8) K2x (cq (K9r _ _ b1) K2x (ar 5 b3 (cq (K9u _ _ b5) K2z (ar 2 b3 (cq (K9u _ _ b7) K2z (ar 6 b3 (cq (K9u _ _ b9) K2z (ai b3 (cq (K9u _ _ c1) K2z (ar 2 b3 tv))))))))))))) ?_
  obtain rfl := os h
  exact Qd5.mk
 clear a2
 refine ic h (fun c2 h => ?_) fun c2 h => ?_
 ·refine rs0 hc 1 [(8,.bool false)] [] ?_
  refine rt ?_
  obtain rfl := os h
  exact rq [true]
 refine sk ?_
 refine sN ?_
 refine sN ?_
 obtain ⟨c4,c5,h⟩ := Qdj h
 refine Wp.into (x := .normal) (mkS [(1,I a1),(2,I b2),(3,I c3),(4,.ra 1 0),(78,.bool c4)] [(1,K1g s0)]) ?_ ?_
 ·replace h := c5
  obtain ⟨c6,c7,c8,c9,d0,d1,d2,d3,h⟩ := bq4 h
  obtain ⟨d4,d5,h⟩ := Qdj h
  rcases is h with ⟨d6,h⟩ | ⟨d6,h⟩
  ·refine rgs hc K9n [oN,oN,oN,oN,oN,oc (I c6),oc (I c8),oN,oN,oN,oN,oc (I d0),oN,oN,oN,oc (I d2),oc (I d4),oN,oN,o_,o_,o_,o_,o_,o_,o_,o_,o_,o_,o_,o_,o_,o_,o_,o_,o_,o_,oT] [(1,I a1),(2,I b2),(3,I c3),(4,.ra 1 0),(78,.bool true)] (cq (K9r _ _ c7) K2x (cq (K9u _ _ c9) K2z (cq (K9u _ _ d1) K2z (cq (K9u _ _ d3) K2z (cq (K9r _ _ d5) K2x (ar 18 (neF d6) (ai d6 tv))))))) ?_
   obtain rfl := os h
   exact Qd5.mk
  obtain ⟨d7,d8,d9,e0,e1,e2,e3,e4,h⟩ := bq4 h
  obtain ⟨e5,e6,h⟩ := Qdj h
  refine rgs hc K9n [oN,oN,oN,oN,oN,oc (I c6),oc (I c8),oN,oN,oN,oN,oc (I d0),oN,oN,oN,oc (I d2),oc (I d4),oN,oN,oN,oN,oN,oN,oc (I d7),oN,oc (I d9),oN,oN,oN,oN,oc (I e1),oN,oN,oN,oc (I e3),oc (I e5),oN,oF] [(1,I a1),(2,I b2),(3,I c3),(4,.ra 1 0),(78,.bool (d9 != e5))] (cq (K9r _ _ c7) K2x (cq (K9u _ _ c9) K2z (cq (K9u _ _ d1) K2z (cq (K9u _ _ d3) K2z (cq (K9r _ _ d5) K2x (ar 5 d6 (cq (K9r _ _ d8) K2x (ar 2 d6 (cq (K9u _ _ e0) K2z (ar 5 d6 (cq (K9u _ _ e2) K2z (ar 4 d6 (cq (K9u _ _ e4) K2z (ai d6 (cq (K9r _ _ e6) K2x (ar 2 d6 tv)))))))))))))))) ?_
  obtain rfl := os h
  exact Qd5.mk
 clear c5
 refine ic h (fun e7 h => ?_) fun e7 h => ?_
 ·refine rs0 hc 1 [(8,.bool false)] [] ?_
  refine rt ?_
  obtain rfl := os h
  exact rq [true]
 refine sk ?_
 refine sN ?_
 obtain ⟨e8,e9,h⟩ := Qdj h
 refine rss hc none [oN,oN,oN,oc (.bool e8),oN] [(1,I a1),(2,I b2),(3,I c3),(4,.ra 1 0),(83,.bool (!e8))] (cq (K9x _ _ e9) K31 tv) ?_
 rcases is h with ⟨f0,h⟩ | ⟨f0,h⟩
 ·refine cF (!e8) (nF f0) ?_
  refine sk ?_
  refine sN ?_
  refine sN ?_
  obtain ⟨f1,f2,h⟩ := Qdj h
  refine Wp.into (x := .normal) (mkS [(1,I a1),(2,I b2),(3,I c3),(4,.ra 1 0),(94,.bool f1)] [(1,K1g s0)]) ?_ ?_
  ·replace h := f2
   obtain ⟨f3,f4,h⟩ := Qdj h
   rcases is h with ⟨f5,h⟩ | ⟨f5,h⟩
   ·obtain ⟨f6,f7,h⟩ := Qdj h
    refine rgs hc none [oN,oN,oN,oc (.bool f3),oN,oN,oN,oN,oc (.bool f6),oN,oT] [(1,I a1),(2,I b2),(3,I c3),(4,.ra 1 0),(94,.bool (!f6))] (cq (K9x _ _ f4) K31 (ar 4 f5 (cq (K9x _ _ f7) K31 (ar 2 f5 tv)))) ?_
    obtain rfl := os h
    exact Qd5.mk
   refine rgs hc none [oN,oN,oN,oc (.bool f3),oN,o_,o_,o_,o_,o_,oF] [(1,I a1),(2,I b2),(3,I c3),(4,.ra 1 0),(94,.bool false)] (cq (K9x _ _ f4) K31 (ar 5 (neT f5) (ai f5 tv))) ?_
   obtain rfl := os h
   exact Qd5.mk
  clear f2
  refine ic h (fun f8 h => ?_) fun f8 h => ?_
  ·refine rs0 hc 1 [(8,.bool false)] [] ?_
   refine rt ?_
   obtain rfl := os h
   exact rq [true]
  refine sk ?_
  refine sN ?_
  obtain ⟨f9,g0,h⟩ := Qdj h
  refine Wp.into (x := .normal) (mkS [(8,.bool f9)] []) ?_ ?_
  ·replace h := g0
   obtain ⟨g1,g2,g3,g4,g5,g6,h⟩ := bq3 h
   rcases is h with ⟨g7,h⟩ | ⟨g7,h⟩
   ·obtain ⟨g8,g9,i0,i1,i2,i3,h⟩ := bq3 h
    rcases is h with ⟨i4,h⟩ | ⟨i4,h⟩
    ·obtain ⟨i5,i6,i7,i8,i9,j0,h⟩ := bq3 h
     refine rg hc K9o [oN,oN,oN,oN,oc (I g1),oN,oN,oN,oc (I g3),oc (.bool g5),oN,oN,oN,oN,oN,oc (I g8),oN,oN,oN,oc (I i0),oc (.bool i2),oT,oN,oN,oN,oN,oN,oc (I i5),oN,oN,oN,oc (I i7),oc (.bool i9),oT,oN] [(8,.bool i9)] [] (cq (K9r _ _ g2) K2x (cq (K9r _ _ g4) K2x (cq (K9x _ _ g6) K31 (ar 5 g7 (cq (K9u _ _ g9) K2z (ar 4 g7 (cq (K9u _ _ i1) K2z (ai g7 (cq (K9x _ _ i3) K31 (ai g7 (ar 5 i4 (cq (K9u _ _ i6) K2z (ar 4 i4 (cq (K9u _ _ i8) K2z (ai i4 (cq (K9x _ _ j0) K31 (ai i4 tv))))))))))))))))) ?_
     obtain rfl := os h
     exact Qd5.mk
    refine rg hc K9o [oN,oN,oN,oN,oc (I g1),oN,oN,oN,oc (I g3),oc (.bool g5),oN,oN,oN,oN,oN,oc (I g8),oN,oN,oN,oc (I i0),oc (.bool i2),oT,oN,o_,o_,o_,o_,o_,o_,o_,o_,o_,o_,oF,oN] [(8,.bool false)] [] (cq (K9r _ _ g2) K2x (cq (K9r _ _ g4) K2x (cq (K9x _ _ g6) K31 (ar 5 g7 (cq (K9u _ _ g9) K2z (ar 4 g7 (cq (K9u _ _ i1) K2z (ai g7 (cq (K9x _ _ i3) K31 (ai g7 (ar 10 (neT i4) (ai i4 tv)))))))))))) ?_
    obtain rfl := os h
    exact Qd5.mk
   refine rg hc K9o [oN,oN,oN,oN,oc (I g1),oN,oN,oN,oc (I g3),oc (.bool g5),oN,o_,o_,o_,o_,o_,o_,o_,o_,o_,o_,oF,oN,o_,o_,o_,o_,o_,o_,o_,o_,o_,o_,oF,oN] [(8,.bool false)] [] (cq (K9r _ _ g2) K2x (cq (K9r _ _ g4) K2x (cq (K9x _ _ g6) K31 (ar 10 (neT g7) (ai g7 (ar 10 (neT (rfl : false = false)) (ai (rfl : false = false) tv))))))) ?_
   obtain rfl := os h
   exact Qd5.mk
  clear g0
  refine rt ?_
  obtain rfl := os h
  exact rq [true]
 refine cT (!e8) (nT f0) ?_
 refine rs0 hc 1 [(8,.bool true)] [] ?_
 refine rt ?_
 obtain rfl := os h
 exact rq [true]
def Kai (c : Ctx) (s0 : K02) (a0 : Int) (a1 : Int) : (Unit) ⊕ (Bool) → Exit → Q0a → Prop
 | .inl _ => Qd5 c (.exit 4) (mkS [(1,.ra 1 0),(3,I a0),(4,I a1)] [(1,K1g s0)])
 | .inr r => Qde TIx Tryz.f80 [] (.bool r)
def Kaj (p : K02 × Int × Int × Int) : Option ((Unit) ⊕ (Bool)) :=
 match p with
 | (s0,a0,a1,a2) =>
  if (decide (a2 < s0.fSize)) = true then
  (Kaf (s0,a0,a1,a2)) >>= fun a3 =>
  if a3 = true then
  Kaj (s0,a0,a1,(wr (a2 + 1)))
  else
  some (.inr false)
  else
  some (.inl ())
 partial_fixpoint
def Kak (p : K02 × Int × Int × Int) (fl : (Unit) ⊕ (Bool)) : Prop :=
 match p with
 | (s0,a0,a1,a2) => ∀ c : Ctx,c.nt = 42 → WpL Tryz.prog c (cl (cl (cr (cr (cl (cl (cr (cl (cl (cr (cr (cl (cl (cr (cl (cl (cr (cl (cr (cr B80)))))))))))))))))))) (Kai c s0 a0 a1 fl) (mkS [(1,.ra 1 0),(3,I a0),(4,I a1),(5,I a2)] [(1,K1g s0)])
theorem Kal : ∀ p r,Kaj p = some r → Kak p r := by
 refine Kaj.partial_correctness Kak ?_
 rintro spec_IsSystem_l0_f spec_IsSystem_l0_ih ⟨s0,a0,a1,a2⟩ r h
 intro c hc
 refine WpL.step ?_
 refine sN ?_
 refine K7p hc 4 [(1,.ra 1 0),(3,I a0),(4,I a1),(5,I a2),(33,.bool (decide (a2 < s0.fSize)))] ?_
 refine ic h (fun a3 h => ?_) fun a3 h => ?_
 ·refine sk ?_
  refine sN ?_
  refine bk 5 ?_
  obtain ⟨a4,a5,h⟩ := Qdj h
  refine rss hc none [oN,oN,oN,oN,oc (.bool a4),oN] [(1,.ra 1 0),(3,I a0),(4,I a1),(5,I a2),(41,.bool (!a4))] (cq (Kah _ _ a5) K39 tv) ?_
  rcases is h with ⟨a6,h⟩ | ⟨a6,h⟩
  ·refine cF (!a4) (nF a6) ?_
   refine sk ?_
   refine K7o hc 3 [(1,.ra 1 0),(3,I a0),(4,I a1),(5,I (wr (a2 + 1)))] ?_
   refine Qd1 ?_
   exact (spec_IsSystem_l0_ih _ _ h c hc)
  refine cT (!a4) (nT a6) ?_
  refine rs0 hc 1 [(2,.bool false)] [] ?_
  refine rt ?_
  obtain rfl := os h
  exact re [true]
 refine xt 4 ?_
 refine Qcv ?_
 refine Qd2 ?_
 obtain rfl := os h
 exact iv []
def Kam (c : Ctx) (s0 : K02) (a0 : Int) : (Unit) ⊕ (Bool) → Exit → Q0a → Prop
 | .inl _ => Qd5 c (.exit 2) (mkS [(1,.ra 1 0),(3,I a0)] [(1,K1g s0)])
 | .inr r => Qde TIx Tryz.f80 [] (.bool r)
end Go.Am
