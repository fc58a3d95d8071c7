/- Walks, printed. -/
import Derived.Test.YtckgdfakjjdodaaGreatGWIF0
set_option linter.unusedVariables false
set_option linter.unusedSimpArgs false
set_option maxRecDepth 100000
namespace Go.Am
open Go Go.Proofs
def Kdo (p : K02 × K00 × Int × Bool) : Option ((List Int) × K02) :=
 match p with
 | (c0,s1,deep2,data3) =>
  (Ka2 (c0,6)) >>= fun (a0,a1) =>
  ((
  if (decide (deep2 ≤ 0)) = true then
  some (true)
  else
  some ((decide (a0 < 2)))
  ) : Option (Bool)) >>= fun a2 =>
  if a2 = true then
  some ([0],a1)
  else
  (Kdo (a1,s1,(wr (deep2 - 1)),data3)) >>= fun (a3,a4) =>
  if (a0 == 2) = true then
  (Ka2 (a4,s1.fSize)) >>= fun (a5,a6) =>
  (Kdl ((wr (19 + a5)),[a3])) >>= fun a7 =>
  some (a7,a6)
  else
  ((
  if (a0 == 3) = true then
  some ((!data3))
  else
  some (false)
  ) : Option (Bool)) >>= fun a8 =>
  if a8 = true then
  (Ka2 (a4,s1.fSize)) >>= fun (a9,b1) =>
  (Kdo (b1,s1,(wr (deep2 - 1)),data3)) >>= fun (b2,b3) =>
  (Kdl ((wr (3 + a9)),[a3,b2])) >>= fun b4 =>
  some (b4,b3)
  else
  if (a0 == 4) = true then
  (Kdo (a4,s1,(wr (deep2 - 1)),data3)) >>= fun (b5,b6) =>
  (Kdl (2,[a3,b5])) >>= fun b7 =>
  some (b7,b6)
  else
  (Kdo (a4,s1,(wr (deep2 - 1)),data3)) >>= fun (b8,b9) =>
  (Kdl (1,[a3,b8])) >>= fun c1 =>
  some (c1,b9)
 partial_fixpoint
def Kdp (p : K02 × K00 × Int × Bool) (r : (List Int) × K02) : Prop :=
 match p with
 | (c0,s1,deep2,data3) => Q77 Tryz.prog 75 [K23 c0,K1w s1,I deep2,.bool data3] (oI r.1) [K23 r.2,.undef,.undef,.undef]
theorem Kdq : ∀ p r,Kdo p = some r → Kdp p r := by
 refine Kdo.partial_correctness Kdp ?_
 rintro spec_dType_f spec_dType_ih ⟨c0,s1,deep2,data3⟩ r h
 refine Q77.bodyO K3d (fn := Tryz.f75) (code := B75) (by kernel_rfl) (by kernel_rfl) (by kernel_rfl) (nt := 79) (by kernel_rfl) (by kernel_rfl) (T := [(0,.ra 1000 0),(1,K1w s1),(2,I deep2),(3,.bool data3)]) (O := [(1000,K21 c0)]) (by kernel_rfl) (by kernel_rfl) (fun c hc => ?_)
 refine rs hc none [nW 1,oN] [(0,.ra 1000 0),(2,I deep2),(3,.bool data3),(5,.ra 1 0)] [(1,K1v s1),(1000,K21 c0)] tv ?_
 obtain ⟨⟨a0,a1⟩,a2,h⟩ := Qe5 h
 refine rsd hc none [oN,some (.call (I a0) [K23 a1,.undef] 1),oN] [] [(9,I a0)] [(1,K1v s1),(1000,K21 a1)] (ab (Ka4 _ _ a2) K3m tv) (sN (sN ?_))
 obtain ⟨a3,a4,h⟩ := Qe5 h
 refine wi [] [(18,.bool a3)] ?_ ?_
 ·replace h := a4
  rcases is h with ⟨a5,h⟩ | ⟨a5,h⟩
  ·obtain rfl := os h
   exact rj hc none [oN,oN,oN,o_,o_,oT] (ar 2 (neF a5) (ai a5 tv))
  obtain rfl := os h
  exact rj hc none (nN 5 [oF]) (ar 3 a5 tv)
 clear a4
 refine ic h (fun a6 h => ?_) fun a6 h => ?_
 ·obtain rfl := os h
  exact rs hc none [mK 2,oN] [(8,.rs 2)] [(2,.arr (List.map I [0])),(1000,K21 a1)] tv (rt (rr [true]))
 refine sk ?_
 obtain ⟨⟨a7,a8⟩,a9,h⟩ := Qe5 h
 refine rsd hc none (nN 5 [some (.call (oI a7) [K23 a8,.undef,.undef,.undef] 3),oN]) [18] [(10,.rs 3)] [(1,K1v s1),(3,rI a7),(1000,K21 a8)] (ab (spec_dType_ih _ _ a9) K4r tv) (sN (bk 0 (K9h hc 3 [] [(26,.bool (a0 == 2))] (ic h (fun b1 h => ?_) fun b1 h => ?_))))
 ·obtain ⟨⟨b2,b3⟩,b4,h⟩ := Qe5 h
  obtain ⟨b5,b6,h⟩ := Qe5 h
  obtain rfl := os h
  exact rs hc none [oN,oN,oN,some (.call (I b2) [K23 b3,.undef] 1),oN,oN,mK 4,some (.call (oI b5) [] 5),oN] [(8,.rs 5)] [(5,rI b5),(1000,K21 b3)] (ad (Ka4 _ _ b4) K3m (Q77.args (A1 := [I (wr (19 + b2)),.sl (Q02 (List.map K10 [a7]))]) (A2 := [I (wr (19 + b2)),.sl (List.map K14 [a7])]) (by simp only [List.map_nil,K19]) (Kdn _ _ b6)) K4t (ai (Or.inr (Qf5 Qf1 b5) : ([4] : List Nat) = [] ∨ noSh (oI b5) = true) tv)) (rt (rr [true]))
 refine sN ?_
 obtain ⟨b7,b8,h⟩ := Qe5 h
 refine wi [26] [(37,.bool b7)] ?_ ?_
 ·replace h := b8
  rcases is h with ⟨b9,h⟩ | ⟨b9,h⟩
  ·obtain rfl := os h
   exact rj hc none (nN 5 [oT,oN]) (ar 3 b9 tv)
  obtain rfl := os h
  exact rj hc none [oN,oN,oN,o_,o_,oF,oN] (ar 2 (neT b9) (ai b9 tv))
 clear b8
 refine ic h (fun c1 h => ?_) fun c1 h => ?_
 ·obtain ⟨⟨c2,c3⟩,c4,h⟩ := Qe5 h
  obtain ⟨⟨c5,c6⟩,c7,h⟩ := Qe5 h
  obtain ⟨c8,c9,h⟩ := Qe5 h
  obtain rfl := os h
  exact rs hc (rx [[0],[0],[0,1],[3],[4],[0],[0],[0],[0],[0,8],[0],[4,6,7,8,9,10],[4,5,6,7,8,9,10,11],[13],[14]]) ([oN,oN,oN,some (.call (I c2) [K23 c3,.undef] 1)]++nN 7 [some (.call (oI c5) [K23 c6,.undef,.undef,.undef] 6),mK 7,some (.call (oI c8) [] 8),oN]) [(8,.rs 8)] [(8,rI c8),(1000,K21 c6)] (ad (Ka4 _ _ c4) K3m (spec_dType_ih _ _ c7) K4r (ac (Q77.args (A1 := [I (wr (3 + c2)),.sl (Q02 (List.map K10 [a7,c5]))]) (A2 := [I (wr (3 + c2)),.sl (List.map K14 [a7,c5])]) (by simp only [List.map_nil,K19]) (Kdn _ _ c9)) K4t (Or.inr (Qf5 Qf1 c8) : ([7] : List Nat) = [] ∨ noSh (oI c8) = true) tv)) (rt (rr [true]))
 refine K9e hc 3 [(0,.ra 1000 0),(2,I deep2),(3,.bool data3),(5,.ra 1 0),(10,.rs 3),(58,.bool (a0 == 4))] (ic h (fun d0 h => ?_) fun d0 h => ?_)
 ·obtain ⟨⟨d1,d2⟩,d3,h⟩ := Qe5 h
  obtain ⟨d4,d5,h⟩ := Qe5 h
  obtain rfl := os h
  exact rs hc none (nN 6 [some (.call (oI d1) [K23 d2,.undef,.undef,.undef] 9),mK 10,some (.call (oI d4) [] 11),oN]) [(8,.rs 11)] [(11,rI d4),(1000,K21 d2)] (ad (spec_dType_ih _ _ d3) K4r (Q77.args (A1 := [I 2,.sl (Q02 (List.map K10 [a7,d1]))]) (A2 := [I 2,.sl (List.map K14 [a7,d1])]) (by simp only [List.map_nil,K19]) (Kdn _ _ d5)) K4t (ai (Or.inr (Qf5 Qf1 d4) : ([10] : List Nat) = [] ∨ noSh (oI d4) = true) tv)) (rt (rr [true]))
 refine sk ?_
 obtain ⟨⟨d6,d7⟩,d8,h⟩ := Qe5 h
 obtain ⟨d9,e0,h⟩ := Qe5 h
 obtain rfl := os h
 exact rs hc none (nN 6 [some (.call (oI d6) [K23 d7,.undef,.undef,.undef] 12),mK 13,some (.call (oI d9) [] 14),oN]) [(8,.rs 14)] [(14,rI d9),(1000,K21 d7)] (ad (spec_dType_ih _ _ d8) K4r (Q77.args (A1 := [I 1,.sl (Q02 (List.map K10 [a7,d6]))]) (A2 := [I 1,.sl (List.map K14 [a7,d6])]) (by simp only [List.map_nil,K19]) (Kdn _ _ e0)) K4t (ai (Or.inr (Qf5 Qf1 d9) : ([13] : List Nat) = [] ∨ noSh (oI d9) = true) tv)) (rt (rr [true]))
def Kdr (c : Ctx) : LL × (List Int) × Int × Int → Exit → Q0a → Prop
 | (a0,a1,a2,a3) => Qdr c (.exit 0) (mkS [(9,.rs 2)] [(2,rM K10 a0),(1000,.box [sM U8 a1,I a2,I a3])])
def Kds (p : K00 × Bool × (List Int) × Int × Int × LL × Int) : Option (LL × (List Int) × Int × Int) :=
 match p with
 | (s1,data3,a0,a1,a2,a3,a4) =>
  if (decide (a4 > 0)) = true then
  (Kdo ((K02.mk a0 a1 a2),s1,2,data3)) >>= fun (a5,a6) =>
  (Qei (a3.length + [a5].length) 24) >>= fun _ =>
  Kds (s1,data3,a6.fb,a6.fi,a6.fh,(a3 ++ [a5]),(wr (a4 - 1)))
  else
  some ((a3,a0,a1,a2))
 partial_fixpoint
def Kdt (p : K00 × Bool × (List Int) × Int × Int × LL × Int) (fl : LL × (List Int) × Int × Int) : Prop :=
 match p with
 | (s1,data3,a0,a1,a2,a3,a4) => ∀ c : Ctx,c.nt = 28 → WpL Tryz.prog c (cl (cl (cr (cl (cr (cr K4u)))))) (Kdr c fl) (mkS [(0,.ra 1000 0),(3,.bool data3),(5,.ra 1 0),(9,.rs 2),(10,I a4)] [(1,K1v s1),(2,rM K10 a3),(1000,.box [sM U8 a0,I a1,I a2])])
theorem Kdu : ∀ p r,Kds p = some r → Kdt p r := by
 refine Kds.partial_correctness Kdt ?_
 rintro spec_dContext_l0_f spec_dContext_l0_ih ⟨s1,data3,a0,a1,a2,a3,a4⟩ r h
 intro c hc
 refine WpL.step (sN (K9h hc 2 [] [(17,.bool (decide (a4 > 0)))] (ic h (fun a5 h => ?_) fun a5 h => ?_)))
 ·refine sk (sN (bk 1 ?_))
  obtain ⟨⟨a6,a7⟩,a8,h⟩ := Qe5 h
  obtain ⟨_,a9,h⟩ := Qe5 h
  exact rgd hc none (nN 4 [some (.call (oI a6) [K23 a7,.undef,.undef,.undef] 6),mK 7,some (.eqv (.mk 8 true) ⟨[(26,.rs 8)],[(8,some (rM K10 (a3 ++ [a6]))),(2,none),(7,none)],[8]⟩),oN]) [17,9] [(9,.rs 8)] [(1,K1v s1),(8,rM K10 (a3 ++ [a6])),(1000,K21 a7)] (ad (Kdq _ _ a8) K4r (congrArg (fun z => (⟨[(26,.rs 8)],[(8,some (.arr z)),(2,none),(7,none)],[8]⟩ : Wr)) ((List.map_append).symm : (List.map K10 a3) ++ (List.map K10 [a6]) = List.map K10 (a3 ++ [a6]))) (Qej (enc1 := K10) (enc2 := K10) (e1 := a3) (e2 := [a6]) (sz := 1) K13 K13 a9) tv) (K9a hc 3 [(0,.ra 1000 0),(3,.bool data3),(5,.ra 1 0),(9,.rs 8),(10,I (wr (a4 - 1)))] (Qdn (WpL.view (fun a w hv => SRx.renL [(2,8)] hv (by kernel_rfl) (by kernel_rfl) (by kernel_rfl)) (spec_dContext_l0_ih _ _ h c hc))))
 refine xt 0 (Qdh (Qdo ?_))
 obtain ⟨rfl,hq0⟩ := Prod.mk.inj (os h)
 obtain ⟨rfl,hq1⟩ := Prod.mk.inj (hq0)
 obtain ⟨rfl,rfl⟩ := Prod.mk.inj (hq1)
 exact iv []
def Kdv (p : K02 × K00 × Int × Bool) : Option (LL × K02) :=
 match p with
 | (c0,s1,most2,data3) =>
  (Ka2 (c0,(wr (most2 + 1)))) >>= fun (a0,a1) =>
  (Kds (s1,data3,a1.fb,a1.fi,a1.fh,[],a0)) >>= fun (a2,a3,a4,a5) =>
  some (a2,(K02.mk a3 a4 a5))
def Kdw (p : K02 × K00 × Int × Bool) (r : LL × K02) : Prop :=
 match p with
 | (c0,s1,most2,data3) => Q77 Tryz.prog 200 [K23 c0,K1w s1,I most2,.bool data3] (oM K10 r.1) [K23 r.2,.undef,.undef,.undef]
theorem Kdx : ∀ p r,Kdv p = some r → Kdw p r := by
 rintro ⟨c0,s1,most2,data3⟩ r h
 unfold Kdv at h
 refine Q77.bodyO K3d (fn := Tryz.f200) (code := K4u) (by kernel_rfl) (by kernel_rfl) (by kernel_rfl) (nt := 28) (by kernel_rfl) (by kernel_rfl) (T := [(0,.ra 1000 0),(1,K1w s1),(2,I most2),(3,.bool data3)]) (O := [(1000,K21 c0)]) (by kernel_rfl) (by kernel_rfl) (fun c hc => ?_)
 refine rs hc none [nW 1,oN] [(0,.ra 1000 0),(2,I most2),(3,.bool data3),(5,.ra 1 0)] [(1,K1v s1),(1000,K21 c0)] tv (rsd hc none [mK 2,oN] [] [(9,.rs 2)] [(1,K1v s1),(2,.arr (List.map K10 [])),(1000,K21 c0)] tv (sN ?_))
 obtain ⟨⟨a0,a1⟩,a2,h⟩ := Qe5 h
 refine rs hc none [oN,oN,oN,some (.call (I a0) [K23 a1,.undef] 1),oN] [(0,.ra 1000 0),(3,.bool data3),(5,.ra 1 0),(9,.rs 2),(10,I a0)] [(1,K1v s1),(2,.arr (List.map K10 [])),(1000,K21 a1)] (ab (Ka4 _ _ a2) K3m tv) (bk 0 ?_)
 obtain ⟨⟨a3,a4,a5,a6⟩,a7,h⟩ := Qe5 h
 have hL := Kdu _ _ a7 c hc
 refine lp (wl hL ?_)
 obtain rfl := os h
 exact Qdj (K9e hc 2 [(8,.rs 2)] (rt (rr [true])))
def Kdy (c : Ctx) : (Unit) ⊕ (Bool) → Exit → Q0a → Prop
 | .inl _ => Qdr c (.exit 0) (mkS [] [])
 | .inr r => Qe0 TIx Tryz.f147 [] (.bool r)
def Kdz (p : (List Int) × (List Int) × Int) : Option ((Unit) ⊕ (Bool)) :=
 match p with
 | (a0,b1,a1) =>
  if (decide (a1 < (a0.length : Int))) = true then
  (idx a0 a1) >>= fun a2 =>
  (idx b1 a1) >>= fun a3 =>
  if (a2 != a3) = true then
  some (.inr false)
  else
  Kdz (a0,b1,(wr (a1 + 1)))
  else
  some (.inl ())
 partial_fixpoint
def Ke0 (p : (List Int) × (List Int) × Int) (fl : (Unit) ⊕ (Bool)) : Prop :=
 match p with
 | (a0,b1,a1) => ∀ c : Ctx,c.nt = 26 → WpL Tryz.prog c (cl (cl (cr (cl (cr (cr K4w)))))) (Kdy c fl) (mkS [(0,sI a0),(1,sI b1),(5,I a1)] [])
theorem Ke1 : ∀ p r,Kdz p = some r → Ke0 p r := by
 refine Kdz.partial_correctness Ke0 ?_
 rintro spec_l1Same_l0_f spec_l1Same_l0_ih ⟨a0,b1,a1⟩ r h
 intro c hc
 refine WpL.step (sN (rsd hc none [oN,oN,nQ ⟨[(13,I (a0.length : Int))],[],[]⟩,oN] [] [(14,.bool (decide (a1 < (a0.length : Int))))] [] (ai (Qeb (d := 13) I a0) tv) (ic h (fun a2 h => ?_) fun a2 h => ?_)))
 ·refine sk (sN (bk 1 ?_))
  obtain ⟨a3,a4,a5,a6,h⟩ := bq2 h
  refine rsd hc (rx [[0],[0],[2],[3],[0],[0],[0,4,5],[0,4,5,6],[8]]) [oN,oN,eL (I a3),oN,oN,oN,eL (I a5),oN,oN] [14] [(25,.bool (a3 != a5))] [] (ab (ix a4) (ix a6) tv) (ic h (fun a7 h => ?_) fun a7 h => ?_)
  ·obtain rfl := os h
   exact rs0 hc 1 [(4,.bool false)] [] (rt (re [true]))
  exact sk (ri0 hc 3 (Qdn (spec_l1Same_l0_ih _ _ h c hc)))
 obtain rfl := os h
 exact xt 0 (Qdh (Qdo (iv [])))
def Ke2 (p : (List Int) × (List Int)) : Option (Bool) :=
 match p with
 | (a0,b1) =>
  if ((a0.length : Int) != (b1.length : Int)) = true then
  some false
  else
  (Kdz (a0,b1,0)) >>= fun fl => match fl with
  | .inl () =>
   some true
  | .inr r =>
   some r
def Ke3 (p : (List Int) × (List Int)) (r : Bool) : Prop :=
 match p with
 | (a0,b1) => Q77 Tryz.prog 147 [sI a0,sI b1] (.bool r) []
theorem Ke4 : ∀ p r,Ke2 p = some r → Ke3 p r := by
 rintro ⟨a0,b1⟩ r h
 unfold Ke2 at h
 refine b0 Tryz.f147 K4w 26 [(0,sI a0),(1,sI b1)] fun c hc => (K9f hc 1 [] [] [] (sN (rsd hc none [oN,nQ ⟨[(7,I (a0.length : Int))],[],[]⟩,oN,nQ ⟨[(9,I (b1.length : Int))],[],[]⟩,oN] [] [(10,.bool ((a0.length : Int) != (b1.length : Int)))] [] (ab (Qeb (d := 7) I a0) (Qeb (d := 9) I b1) tv) (ic h (fun a1 h => ?_) fun a1 h => ?_))))
 ·obtain rfl := os h
  exact rs0 hc 1 [(4,.bool false)] [] (rt (rq [true]))
 refine sk (sN (rs0 hc 1 [(0,sI a0),(1,sI b1),(5,I 0)] [] (bk 0 ?_)))
 obtain ⟨fl,a2,h⟩ := Qe5 h
 have hL := Ke1 _ _ a2 c hc
 refine lp ?_
 rcases fl with ⟨⟩ | r
 ·refine wl hL ?_
  obtain rfl := os h
  exact Qdj (rs0 hc 1 [(4,.bool true)] [] (rt (rq [true])))
 refine WpL.mono hL ?_
 rintro _ _ ⟨rfl,hfin⟩
 obtain rfl := os h
 exact ⟨.inl rfl,hfin⟩
def Ke5 (p : Int × Int × (List K01)) : Option (K01) :=
 match p with
 | (op0,n1,Kwp) =>
  some (K01.mk op0 n1 [] Kwp)
def Ke6 (p : Int × Int × (List K01)) (r : K01) : Prop :=
 match p with
 | (op0,n1,Kwp) => Q77 Tryz.prog 182 [I op0,I n1,sM K0h Kwp] (K1z r) []
theorem Ke7 : ∀ p r,Ke5 p = some r → Ke6 p r := by
 rintro ⟨op0,n1,Kwp⟩ r h
 unfold Ke5 at h
 refine b0 Tryz.f182 K4y 11 [(0,I op0),(1,I n1),(2,sM K0h Kwp)] fun c hc => ?_
 obtain rfl := os h
 exact rsd hc none [nW 1] [] [(6,.ra 1 0)] [(1,zT)] tv (K9f hc 5 [0,1,2] [] [(1,.box [I op0,I n1,.nils,sM K0h Kwp])] (rt (rq [false])))
def Ke8 (c0 : Int) : Option (Bool) :=
 ((
 (Ka8 (c0,3,18)) >>= fun a0 =>
 if a0 = true then
 some (true)
 else
 some ((c0 == 35))
 ) : Option (Bool)) >>= fun a1 =>
 some a1
def Ke9 (c0 : Int) (r : Bool) : Prop :=
 Q77 Tryz.prog 215 [I c0] (.bool r) []
theorem Kea : ∀ p r,Ke8 p = some r → Ke9 p r := by
 rintro c0 r h
 unfold Ke8 at h
 refine b0 Tryz.f215 K54 9 [(0,I c0)] fun c hc => (K9f hc 1 [] [] [] (sN ?_))
 obtain ⟨a0,a1,h⟩ := Qe5 h
 refine Wp.into (x := .normal) (mkS [(2,.bool a0)] []) ?_ ?_
 ·replace h := a1
  obtain ⟨a2,a3,h⟩ := Qe5 h
  rcases is h with ⟨a4,h⟩ | ⟨a4,h⟩
  ·obtain rfl := os h
   exact rj hc none [oN,oc (.bool a2),oN,o_,o_,oT,oN] (cq (Kaa _ _ a3) K3p (ar 2 (neF a4) (ai a4 tv)))
  obtain rfl := os h
  exact rj hc none [oN,oc (.bool a2),oN,oN,oN,oF,oN] (cq (Kaa _ _ a3) K3p (ar 3 a4 tv))
 clear a1
 obtain rfl := os h
 exact rt (rq [true])
def Keb (c0 : Int) : Option (Bool) :=
 ((
 (Ka8 (c0,19,34)) >>= fun a0 =>
 if a0 = true then
 some (true)
 else
 some ((c0 == 36))
 ) : Option (Bool)) >>= fun a1 =>
 some a1
def Kec (c0 : Int) (r : Bool) : Prop :=
 Q77 Tryz.prog 185 [I c0] (.bool r) []
theorem Ked : ∀ p r,Keb p = some r → Kec p r := by
 rintro c0 r h
 unfold Keb at h
 refine b0 Tryz.f185 K56 9 [(0,I c0)] fun c hc => (K9f hc 1 [] [] [] (sN ?_))
 obtain ⟨a0,a1,h⟩ := Qe5 h
 refine Wp.into (x := .normal) (mkS [(2,.bool a0)] []) ?_ ?_
 ·replace h := a1
  obtain ⟨a2,a3,h⟩ := Qe5 h
  rcases is h with ⟨a4,h⟩ | ⟨a4,h⟩
  ·obtain rfl := os h
   exact rj hc none [oN,oc (.bool a2),oN,o_,o_,oT,oN] (cq (Kaa _ _ a3) K3p (ar 2 (neF a4) (ai a4 tv)))
  obtain rfl := os h
  exact rj hc none [oN,oc (.bool a2),oN,oN,oN,oF,oN] (cq (Kaa _ _ a3) K3p (ar 3 a4 tv))
 clear a1
 obtain rfl := os h
 exact rt (rq [true])
def Kee (c0 : Int) : Option (Int) :=
 if (c0 == 0) = true then
 some 0
 else
 ((
 if (c0 == 1) = true then
 some (true)
 else
 if (c0 == 2) = true then
 some (true)
 else
 (Ke8 c0) >>= fun a0 =>
 some (a0)
 ) : Option (Bool)) >>= fun a1 =>
 if a1 = true then
 some 2
 else
 (Keb c0) >>= fun a2 =>
 if a2 = true then
 some 1
 else
 some (-1)
def Kef (c0 : Int) (r : Int) : Prop :=
 Q77 Tryz.prog 168 [I c0] (I r) []
theorem Keg : ∀ p r,Kee p = some r → Kef p r := by
 rintro c0 r h
 unfold Kee at h
 refine b0 Tryz.f168 K58 20 [(0,I c0)] fun c hc => (K9f hc 1 [] [] [] (sN (bk 0 (K9f hc 3 [] [(3,.bool (c0 == 0))] [] (ic h (fun a0 h => ?_) fun a0 h => ?_)))))
 ·obtain rfl := os h
  exact rs0 hc 1 [(2,I 0)] [] (rt (rq [true]))
 refine sN ?_
 obtain ⟨a1,a2,h⟩ := Qe5 h
 refine wi [3] [(6,.bool a1)] ?_ ?_
 ·replace h := a2
  rcases is h with ⟨a3,h⟩ | ⟨a3,h⟩
  ·obtain rfl := os h
   exact rj hc none [oN,oN,oN,o_,o_,oT,oN,o_,o_,oT,oN] (ar 2 (neF a3) (ai a3 (ar 2 nf (ai tt tv))))
  rcases is h with ⟨a4,h⟩ | ⟨a4,h⟩
  ·obtain rfl := os h
   exact rj hc none (nN 5 [oF,oN,o_,o_,oT,oN]) (ar 3 a3 (ar 2 (neF a4) (ai a4 tv)))
  obtain ⟨a5,a6,h⟩ := Qe5 h
  obtain rfl := os h
  exact rj hc none (nN 5 [oF,oN,oN,oc (.bool a5),oF,oN]) (ar 3 a3 (ar 2 a4 (cq (Kea _ _ a6) K55 (ai a4 tv))))
 clear a2
 refine ic h (fun a7 h => ?_) fun a7 h => ?_
 ·obtain rfl := os h
  exact rs0 hc 1 [(2,I 2)] [] (rt (rq [true]))
 obtain ⟨a8,a9,h⟩ := Qe5 h
 refine rs hc none [oN,oc (.bool a8),oN] [(17,.bool a8)] [] (cq (Ked _ _ a9) K57 tv) (ic h (fun b1 h => ?_) fun b1 h => ?_)
 ·obtain rfl := os h
  exact rs0 hc 1 [(2,I 1)] [] (rt (rq [true]))
 obtain rfl := os h
 exact sk (rs0 hc 1 [(2,I (-1))] [] (rt (rq [true])))
def Keh (c : Ctx) : (Unit) ⊕ (Int) → Exit → Q0a → Prop
 | .inl _ => Qdr c (.exit 0) (mkS [] [])
 | .inr r => Qe0 TIx Tryz.f167 [] (I r)
def Kei (p : (List Int) × Int × Int) : Option ((Unit) ⊕ (Int)) :=
 match p with
 | (ty0,a0,a1) =>
  if (decide (a1 < (ty0.length : Int))) = true then
  (idx ty0 a1) >>= fun a2 =>
  (Kee a2) >>= fun a3 =>
  if (decide (a3 < 0)) = true then
  some (.inr (-1))
  else
  if ((wr ((wr (a0 - 1)) + a3)) == 0) = true then
  some (.inr (wr (a1 + 1)))
  else
  Kei (ty0,(wr ((wr (a0 - 1)) + a3)),(wr (a1 + 1)))
  else
  some (.inl ())
 partial_fixpoint
def Kej (p : (List Int) × Int × Int) (fl : (Unit) ⊕ (Int)) : Prop :=
 match p with
 | (ty0,a0,a1) => ∀ c : Ctx,c.nt = 30 → WpL Tryz.prog c (cl (cl (cr (cl (cr (cr K5a)))))) (Keh c fl) (mkS [(0,sI ty0),(5,I a0),(6,I a1)] [])
theorem Kek : ∀ p r,Kei p = some r → Kej p r := by
 refine Kei.partial_correctness Kej ?_
 rintro spec_l2End_l0_f spec_l2End_l0_ih ⟨ty0,a0,a1⟩ r h
 intro c hc
 refine WpL.step (sN (rsd hc none [oN,oN,nQ ⟨[(11,I (ty0.length : Int))],[],[]⟩,oN] [] [(12,.bool (decide (a1 < (ty0.length : Int))))] [] (ai (Qeb (d := 11) I ty0) tv) (ic h (fun a2 h => ?_) fun a2 h => ?_)))
 ·refine sk (sN (bk 1 ?_))
  obtain ⟨a3,a4,a5,a6,h⟩ := bq2 h
  refine rsd hc none [oN,oN,eL (I a3),oN,oc (I a5),oN] [12] [(7,I a5)] [] (ai (ix a4) (cq (Keg _ _ a6) K59 tv)) (sN (K9f hc 2 [] [(21,.bool (decide (a5 < 0)))] [] (ic h (fun a7 h => ?_) fun a7 h => ?_)))
  ·obtain rfl := os h
   exact rs0 hc 1 [(4,I (-1))] [] (rt (re [true]))
  refine sk (K9f hc 5 [21,7,5] [(5,I (wr ((wr (a0 - 1)) + a5)))] [] (K9f hc 2 [] [(27,.bool ((wr ((wr (a0 - 1)) + a5)) == 0))] [] (ic h (fun a8 h => ?_) fun a8 h => ?_)))
  ·obtain rfl := os h
   exact rs0 hc 3 [(4,I (wr (a1 + 1)))] [] (rt (re [true]))
  exact sk (ri0 hc 3 (Qdn (spec_l2End_l0_ih _ _ h c hc)))
 obtain rfl := os h
 exact xt 0 (Qdh (Qdo (iv [])))
def Kel (p : (List Int) × Int) : Option (Int) :=
 match p with
 | (ty0,at1) =>
  (Kei (ty0,1,at1)) >>= fun fl => match fl with
  | .inl () =>
   some (-1)
  | .inr r =>
   some r
def Kem (p : (List Int) × Int) (r : Int) : Prop :=
 match p with
 | (ty0,at1) => Q77 Tryz.prog 167 [sI ty0,I at1] (I r) []
theorem Ken : ∀ p r,Kel p = some r → Kem p r := by
 rintro ⟨ty0,at1⟩ r h
 unfold Kel at h
 refine b0 Tryz.f167 K5a 30 [(0,sI ty0),(1,I at1)] fun c hc => (K9f hc 1 [] [] [] (K9f hc 1 [] [(5,I 1)] [] (sN (rs0 hc 2 [(0,sI ty0),(5,I 1),(6,I at1)] [] (bk 0 ?_)))))
 obtain ⟨fl,a0,h⟩ := Qe5 h
 have hL := Kek _ _ a0 c hc
 refine lp ?_
 rcases fl with ⟨⟩ | r
 ·refine wl hL ?_
  obtain rfl := os h
  exact Qdj (rs0 hc 1 [(4,I (-1))] [] (rt (rq [true])))
 refine WpL.mono hL ?_
 rintro _ _ ⟨rfl,hfin⟩
 obtain rfl := os h
 exact ⟨.inl rfl,hfin⟩
def Keo (l0 : (List Int)) : Option ((List Int)) :=
 (Qei (([] : List Int).length + l0.length) 8) >>= fun _ =>
 some l0
def Kep (l0 : (List Int)) (r : (List Int)) : Prop :=
 Q77 Tryz.prog 176 [sI l0] (oI r) []
theorem Keq : ∀ p r,Keo p = some r → Kep p r := by
 rintro l0 r h
 unfold Keo at h
 refine b0 Tryz.f176 K5c 6 [(0,sI l0)] fun c hc => (K9f hc 1 [] [] [] ?_)
 obtain ⟨_,a0,h⟩ := Qe5 h
 obtain rfl := os h
 exact rs hc none [mK 1,oN,some (.eqv (.mk 2 true) ⟨[(5,.rs 2)],[(2,some (rI l0)),(1,none)],[2]⟩),oN] [(2,.rs 2)] [(2,rI l0)] (ab (congrArg (fun z => (⟨[(5,.rs 2)],[(2,some (.arr z)),(1,none)],[2]⟩ : Wr)) (List.nil_append _ : [] ++ (List.map I l0) = List.map I l0)) (Qej (enc1 := I) (enc2 := I) (e1 := []) (e2 := l0) (sz := 1) Qes Qes a0) tv) (rt (rq [true]))
def Ker (p : (List Int) × Int) : Option ((List Int)) :=
 match p with
 | (ty0,k1) =>
  (Kel (ty0,1)) >>= fun a0 =>
  if (k1 == 0) = true then
  (cut ty0 (some 1) (some a0) none) >>= fun a1 =>
  (Keo a1) >>= fun a2 =>
  some a2
  else
  (cut ty0 (some a0) none none) >>= fun a3 =>
  (Keo a3) >>= fun a4 =>
  some a4
def Kes (p : (List Int) × Int) (r : (List Int)) : Prop :=
 match p with
 | (ty0,k1) => Q77 Tryz.prog 178 [sI ty0,I k1] (oI r) []
theorem Ket : ∀ p r,Ker p = some r → Kes p r := by
 rintro ⟨ty0,k1⟩ r h
 unfold Ker at h
 refine b0 Tryz.f178 K5e 18 [(0,sI ty0),(1,I k1)] fun c hc => (K9f hc 1 [] [] [] ?_)
 obtain ⟨a0,a1,h⟩ := Qe5 h
 refine rsd hc none [oN,oc (I a0),oN] [] [(5,I a0)] [] (cq (Ken _ _ a1) K5b tv) (sN (K9f hc 2 [1] [(9,.bool (k1 == 0))] [] (ic h (fun a2 h => ?_) fun a2 h => ?_)))
 ·obtain ⟨a3,a4,a5,a6,h⟩ := bq2 h
  obtain rfl := os h
  exact rs hc none [oN,oN,nQ ⟨[(12,sI a3)],[],[]⟩,oc (oI a5),oN] [(4,.rs 1)] [(1,rI a5)] (ab (Qee (d := 12) I a4) (Qed (enc := I) (sz := 1) Qeo a4) (cq (Keq _ _ a6) K5d tv)) (rt (rq [true]))
 refine sk ?_
 obtain ⟨a7,a8,a9,b1,h⟩ := bq2 h
 obtain rfl := os h
 exact rs hc none [oN,oN,nQ ⟨[(16,sI a7)],[],[]⟩,some (.call (oI a9) [] 2),oN] [(4,.rs 2)] [(2,rI a9)] (ab (Qee (d := 16) I a8) (Qed (enc := I) (sz := 1) Qeo a8) (cq (Keq _ _ b1) K5d tv)) (rt (rq [true]))
def Keu (c0 : Int) : Option (Int) :=
 if (decide (c0 ≥ 35)) = true then
 some (-1)
 else
 if (decide (c0 ≥ 19)) = true then
 some (wr (c0 - 19))
 else
 some (wr (c0 - 3))
def Kev (c0 : Int) (r : Int) : Prop :=
 Q77 Tryz.prog 169 [I c0] (I r) []
theorem Kew : ∀ p r,Keu p = some r → Kev p r := by
 rintro c0 r h
 unfold Keu at h
 refine b0 Tryz.f169 K5g 13 [(0,I c0)] fun c hc => (K9f hc 1 [] [] [] (sN (bk 0 (K9f hc 3 [] [(3,.bool (decide (c0 ≥ 35)))] [] (ic h (fun a0 h => ?_) fun a0 h => ?_)))))
 ·obtain rfl := os h
  exact rs0 hc 1 [(2,I (-1))] [] (rt (rq [true]))
 refine K9f hc 3 [3] [(6,.bool (decide (c0 ≥ 19)))] [] (ic h (fun a1 h => ?_) fun a1 h => ?_)
 ·obtain rfl := os h
  exact rs0 hc 3 [(2,I (wr (c0 - 19)))] [] (rt (rq [true]))
 obtain rfl := os h
 exact sk (rs0 hc 3 [(2,I (wr (c0 - 3)))] [] (rt (rq [true])))
def Kex (p : LL × LL) : Option (LL) :=
 match p with
 | (ctx0,front1) =>
  (Qei (([] : LL).length + front1.length) 24) >>= fun _ =>
  (Qei (front1.length + ctx0.length) 24) >>= fun _ =>
  some (front1 ++ ctx0)
def Key (p : LL × LL) (r : LL) : Prop :=
 match p with
 | (ctx0,front1) => Q77 Tryz.prog 233 [sL ctx0,sL front1] (.osl (List.map K14 r)) []
theorem Kez : ∀ p r,Kex p = some r → Key p r := by
 rintro ⟨ctx0,front1⟩ r h
 unfold Kex at h
 refine b0 Tryz.f233 K5k 10 [(0,sL ctx0),(1,sL front1)] fun c hc => (K9f hc 1 [] [] [] ?_)
 obtain ⟨_,a0,_,a1,h⟩ := bq2 h
 obtain rfl := os h
 exact rs hc none [mK 1,oN,some (.eqv (.mk 2 true) ⟨[(7,.rs 2)],[(2,some (rM K14 front1)),(1,none)],[2]⟩),oN,some (.eqv (.mk 3 true) ⟨[(9,.rs 3)],[(3,some (rM K14 (front1 ++ ctx0))),(2,none)],[3]⟩),oN] [(4,.rs 3)] [(3,rM K14 (front1 ++ ctx0))] (ad (congrArg (fun z => (⟨[(7,.rs 2)],[(2,some (.arr z)),(1,none)],[2]⟩ : Wr)) (List.nil_append _ : [] ++ (List.map K14 front1) = List.map K14 front1)) (Qej (enc1 := K10) (enc2 := K14) (e1 := []) (e2 := front1) (sz := 1) K13 K17 a0) (congrArg (fun z => (⟨[(9,.rs 3)],[(3,some (.arr z)),(2,none)],[3]⟩ : Wr)) ((List.map_append).symm : (List.map K14 front1) ++ (List.map K14 ctx0) = List.map K14 (front1 ++ ctx0))) (Qej (enc1 := K14) (enc2 := K14) (e1 := front1) (e2 := ctx0) (sz := 1) K17 K17 a1) tv) (rt (rq [true]))
def Kf0 (p : LL × LL) (r : LL) : Prop :=
 match p with
 | (ctx0,front1) => Q77 Tryz.prog 233 [.osl (List.map K14 ctx0),sL front1] (.osl (List.map K14 r)) [.osl (List.map K14 ctx0),.undef]
theorem Kf1 : ∀ p r,Kex p = some r → Kf0 p r := by
 rintro ⟨ctx0,front1⟩ r h
 unfold Kex at h
 refine Q77.bodyO K3d (fn := Tryz.f233) (code := K5k) (by kernel_rfl) (by kernel_rfl) (by kernel_rfl) (nt := 10) (by kernel_rfl) (by kernel_rfl) (T := [(0,.rs 1000),(1,sL front1)]) (O := [(1000,rM K14 ctx0)]) (by kernel_rfl) (by kernel_rfl) (fun c hc => ?_)
 refine K9e hc 1 [(0,.rs 1000),(1,sL front1)] ?_
 obtain ⟨_,a0,_,a1,h⟩ := bq2 h
 obtain rfl := os h
 exact rs hc none [mK 1,oN,some (.eqv (.mk 2 true) ⟨[(7,.rs 2)],[(2,some (rM K14 front1)),(1,none)],[2]⟩),oN,some (.eqv (.mk 3 false) ⟨[(9,.rs 3)],[(3,some (rM K14 (front1 ++ ctx0))),(2,none)],[3]⟩),oN] [(4,.rs 3)] [(3,rM K14 (front1 ++ ctx0)),(1000,rM K14 ctx0)] (ad (congrArg (fun z => (⟨[(7,.rs 2)],[(2,some (.arr z)),(1,none)],[2]⟩ : Wr)) (List.nil_append _ : [] ++ (List.map K14 front1) = List.map K14 front1)) (Qej (enc1 := K10) (enc2 := K14) (e1 := []) (e2 := front1) (sz := 1) K13 K17 a0) (congrArg (fun z => (⟨[(9,.rs 3)],[(3,some (.arr z)),(2,none)],[3]⟩ : Wr)) ((List.map_append).symm : (List.map K14 front1) ++ (List.map K14 ctx0) = List.map K14 (front1 ++ ctx0))) (Qej (enc1 := K14) (enc2 := K14) (e1 := front1) (e2 := ctx0) (sz := 1) K17 K17 a1) (ai (Qfq (enc := K14) (l := ctx0) (fun _ => rfl)) tv)) (rt (rr [true]))
def Kf2 (n0 : Int) : Option ((List Int)) :=
 (chk (0 ≤ n0 ∧ (Int.toNat n0) * 8 ≤ 140737488355328)) >>= fun _ =>
 some (List.replicate (Int.toNat n0) 0)
def Kf3 (n0 : Int) (r : (List Int)) : Prop :=
 Q77 Tryz.prog 232 [I n0] (oI r) []
theorem Kf4 : ∀ p r,Kf2 p = some r → Kf3 p r := by
 rintro n0 r h
 unfold Kf2 at h
 refine b0 Tryz.f232 K5m 5 [(0,I n0)] fun c hc => (K9f hc 1 [] [] [] ?_)
 obtain ⟨_,a0,h⟩ := Qe5 h
 obtain rfl := os h
 exact rs hc none [oN,some (.eqv (.mk 1 true) ⟨[(4,.rs 1)],[(1,some (.arr (List.map I (List.replicate (Int.toNat n0) 0))))],[1]⟩),oN] [(2,.rs 1)] [(1,.arr (List.map I (List.replicate (Int.toNat n0) 0)))] (ab (congrArg (fun z => (⟨[(4,.rs 1)],[(1,some (.arr z))],[1]⟩ : Wr)) (Qfa (enc := I) (n := Int.toNat n0) (x := I 0) (Qek 0))) (And.intro (Eq.refl n0) (Qe7 a0)) tv) (rt (rq [true]))
def Kf5 (fault0 : Int) : Option (K03) :=
 some (K03.mk [] [] fault0 [])
def Kf6 (fault0 : Int) (r : K03) : Prop :=
 Q77 Tryz.prog 235 [I fault0] (K2j r) []
theorem Kf7 : ∀ p r,Kf5 p = some r → Kf6 p r := by
 rintro fault0 r h
 unfold Kf5 at h
 refine b0 Tryz.f235 K5q 5 [(0,I fault0)] fun c hc => ?_
 obtain rfl := os h
 exact rsd hc none [nW 1] [] [(2,.ra 1 0)] [(1,.box [.nils,.nils,I 0,.nils])] tv (K9f hc 3 [0] [] [(1,.box [.nils,.nils,I fault0,.nils])] (rt (rq [true])))
def Kf8 (c : Ctx) : (List Int) → Exit → Q0a → Prop
 | a0 => Qdr c (.exit 0) (mkS [(9,.rs 2)] [(2,rI a0)])
def Kf9 (p : K00 × (List Int) × Int × (List Int) × (List Int) × Int) : Option ((List Int)) :=
 match p with
 | (s0,a1,g2,b3,a0,a2) =>
  if (decide (a2 < (a1.length : Int))) = true then
  (idx a1 a2) >>= fun a3 =>
  (idx b3 a2) >>= fun a4 =>
  (Kbk (s0,g2,a4)) >>= fun a5 =>
  (Kbh (s0,a3,a5)) >>= fun a6 =>
  (Qei (a0.length + [a6].length) 8) >>= fun _ =>
  Kf9 (s0,a1,g2,b3,(a0 ++ [a6]),(wr (a2 + 1)))
  else
  some (a0)
 partial_fixpoint
def Kfa (p : K00 × (List Int) × Int × (List Int) × (List Int) × Int) (fl : (List Int)) : Prop :=
 match p with
 | (s0,a1,g2,b3,a0,a2) => ∀ c : Ctx,c.nt = 35 → WpL Tryz.prog c (cl (cl (cr (cl (cr (cr K5u)))))) (Kf8 c fl) (mkS [(1,sI a1),(2,I g2),(3,sI b3),(4,.ra 1 0),(9,.rs 2),(10,I a2)] [(1,K1v s0),(2,rI a0)])
theorem Kfb : ∀ p r,Kf9 p = some r → Kfa p r := by
 refine Kf9.partial_correctness Kfa ?_
 rintro spec_l3Sum_l0_f spec_l3Sum_l0_ih ⟨s0,a1,g2,b3,a0,a2⟩ r h
 intro c hc
 refine WpL.step (sN (K9g hc none [oN,oN,nQ ⟨[(14,I (a1.length : Int))],[],[]⟩,oN] [] [(15,.bool (decide (a2 < (a1.length : Int))))] (ai (Qeb (d := 14) I a1) tv) (ic h (fun a3 h => ?_) fun a3 h => ?_)))
 ·refine sk (sN (bk 1 ?_))
  obtain ⟨a4,a5,a6,a7,a8,a9,b1,b2,h⟩ := bq4 h
  obtain ⟨_,b4,h⟩ := Qe5 h
  exact rgd hc (rx [[0],[0],[0],[0],[0,2,3],[0,2,3,4],[0],[0],[0],[0],[0,8,9],[0,8,9,10],[0,6,7,8,9,10,11],[0,1,2,3,4,5,6,7,8,9,10,11,12],[0,1,2,3,4,5,6,7,8,9,10,11,12,13],[15],[16]]) (nN 4 ([eL (I a4)]++nN 5 [eL (I a6),oN,oc (I a8),oc (I b1),mK 5,some (.eqv (.mk 6 true) ⟨[(33,.rs 6)],[(6,some (rI (a0 ++ [b1]))),(2,none),(5,none)],[6]⟩),oN])) [15,9] [(9,.rs 6)] [(1,K1v s0),(6,rI (a0 ++ [b1]))] (ab (ix a5) (ix a7) (cq (Kbm _ _ a9) K44 (cq (Kbj _ _ b2) K42 (ab (congrArg (fun z => (⟨[(33,.rs 6)],[(6,some (.arr z)),(2,none),(5,none)],[6]⟩ : Wr)) ((List.map_append).symm : (List.map I a0) ++ (List.map I [b1]) = List.map I (a0 ++ [b1]))) (Qej (enc1 := I) (enc2 := I) (e1 := a0) (e2 := [b1]) (sz := 1) Qes Qes b4) tv)))) (K9a hc 3 [(1,sI a1),(2,I g2),(3,sI b3),(4,.ra 1 0),(9,.rs 6),(10,I (wr (a2 + 1)))] (Qdn (WpL.view (fun a w hv => SRx.renL [(2,6)] hv (by kernel_rfl) (by kernel_rfl) (by kernel_rfl)) (spec_l3Sum_l0_ih _ _ h c hc))))
 obtain rfl := os h
 exact xt 0 (Qdh (Qdo (iv [])))
def Kfc (p : K00 × (List Int) × Int × (List Int)) : Option ((List Int)) :=
 match p with
 | (s0,a1,g2,b3) =>
  (Kf9 (s0,a1,g2,b3,[],0)) >>= fun a0 =>
  some a0
def Kfd (p : K00 × (List Int) × Int × (List Int)) (r : (List Int)) : Prop :=
 match p with
 | (s0,a1,g2,b3) => Q77 Tryz.prog 238 [K1w s0,sI a1,I g2,sI b3] (oI r) []
theorem Kfe : ∀ p r,Kfc p = some r → Kfd p r := by
 rintro ⟨s0,a1,g2,b3⟩ r h
 unfold Kfc at h
 refine b0 Tryz.f238 K5u 35 [(0,K1w s0),(1,sI a1),(2,I g2),(3,sI b3)] fun c hc => (rsd hc none [nW 1,oN] [0] [(4,.ra 1 0)] [(1,K1v s0)] tv (rsd hc none [mK 2,oN] [] [(9,.rs 2)] [(1,K1v s0),(2,.arr (List.map I []))] tv (sN (K9e hc 1 [(1,sI a1),(2,I g2),(3,sI b3),(4,.ra 1 0),(9,.rs 2),(10,I 0)] (bk 0 ?_)))))
 obtain ⟨a0,a2,h⟩ := Qe5 h
 have hL := Kfb _ _ a2 c hc
 refine lp (wl hL ?_)
 obtain rfl := os h
 exact Qdj (K9e hc 2 [(8,.rs 2)] (rt (rq [true])))
def Kff (p : (List Int) × (List Int)) : Option (K03) :=
 match p with
 | (ty0,needs1) =>
  if (decide ((ty0.length : Int) > 40)) = true then
  (Kf5 3) >>= fun a0 =>
  some a0
  else
  some (K03.mk ty0 needs1 0 [])
def Kfg (p : (List Int) × (List Int)) (r : K03) : Prop :=
 match p with
 | (ty0,needs1) => Q77 Tryz.prog 237 [sI ty0,sI needs1] (K25 r) []
theorem Kfh : ∀ p r,Kff p = some r → Kfg p r := by
 rintro ⟨ty0,needs1⟩ r h
 unfold Kff at h
 refine b0 Tryz.f237 K5w 12 [(0,sI ty0),(1,sI needs1)] fun c hc => (rsd hc none [nW 1] [] [(4,.ra 1 0)] [(1,.box [.nils,.nils,I 0,.nils])] tv (sN (K9g hc none [oN,nQ ⟨[(6,I (ty0.length : Int))],[],[]⟩,oN] [] [(7,.bool (decide ((ty0.length : Int) > 40)))] (ai (Qeb (d := 6) I ty0) tv) (ic h (fun a0 h => ?_) fun a0 h => ?_))))
 ·obtain ⟨a1,a2,h⟩ := Qe5 h
  refine rs hc none [some (.call (K2j a1) [] 2),oN] [(4,.ra 1 0)] [(1,.box [.rs 2,.rs 3,I a1.ffault,.rs 4]),(2,rI a1.fty),(3,rI a1.fneeds),(4,rI a1.fpath)] (cq (Kf7 _ _ a2) K5r tv) (vz 2 (Qex a1.fty) [(4,.ra 1 0)] [(1,.box [sI a1.fty,.rs 3,I a1.ffault,.rs 4]),(3,rI a1.fneeds),(4,rI a1.fpath)] (vz 3 (Qex a1.fneeds) [(4,.ra 1 0)] [(1,.box [sI a1.fty,sI a1.fneeds,I a1.ffault,.rs 4]),(4,rI a1.fpath)] (vz 4 (Qex a1.fpath) [(4,.ra 1 0)] [(1,K24 a1)] ?_)))
  obtain rfl := os h
  exact rt (rq [false])
 obtain rfl := os h
 exact sk (K9f hc 4 [7,0,1] [] [(1,.box [sI ty0,sI needs1,I 0,.nils])] (rt (rq [false])))
def Kfi (c : Ctx) : (List Int) → Exit → Q0a → Prop
 | a0 => Qdr c (.exit 0) (mkS [(7,.rs 2)] [(2,rI a0)])
def Kfj (p : K00 × (List Int) × (List Int) × (List Int) × Int) : Option ((List Int)) :=
 match p with
 | (s0,a1,b2,a0,a2) =>
  if (decide (a2 < (a1.length : Int))) = true then
  (idx a1 a2) >>= fun a3 =>
  (idx b2 a2) >>= fun a4 =>
  (Kc1 (s0,a3,a4)) >>= fun a5 =>
  (Qei (a0.length + [a5].length) 8) >>= fun _ =>
  Kfj (s0,a1,b2,(a0 ++ [a5]),(wr (a2 + 1)))
  else
  some (a0)
 partial_fixpoint
def Kfk (p : K00 × (List Int) × (List Int) × (List Int) × Int) (fl : (List Int)) : Prop :=
 match p with
 | (s0,a1,b2,a0,a2) => ∀ c : Ctx,c.nt = 30 → WpL Tryz.prog c (cl (cl (cr (cl (cr (cr K62)))))) (Kfi c fl) (mkS [(1,sI a1),(2,sI b2),(3,.ra 1 0),(7,.rs 2),(8,I a2)] [(1,K1v s0),(2,rI a0)])
theorem Kfl : ∀ p r,Kfj p = some r → Kfk p r := by
 refine Kfj.partial_correctness Kfk ?_
 rintro spec_l3Join_l0_f spec_l3Join_l0_ih ⟨s0,a1,b2,a0,a2⟩ r h
 intro c hc
 refine WpL.step (sN (K9g hc none [oN,oN,nQ ⟨[(12,I (a1.length : Int))],[],[]⟩,oN] [] [(13,.bool (decide (a2 < (a1.length : Int))))] (ai (Qeb (d := 12) I a1) tv) (ic h (fun a3 h => ?_) fun a3 h => ?_)))
 ·refine sk (sN (bk 1 ?_))
  obtain ⟨a4,a5,a6,a7,a8,a9,_,b1,h⟩ := bq4 h
  exact rgd hc (rx [[0],[0],[0],[0],[0,2,3],[0,2,3,4],[0],[0],[0,6,7],[0,6,7,8],[0,1,2,3,4,5,6,7,8,9],[0,1,2,3,4,5,6,7,8,9,10],[12],[13]]) (nN 4 [eL (I a4),oN,oN,oN,eL (I a6),oN,oc (I a8),mK 5,some (.eqv (.mk 6 true) ⟨[(28,.rs 6)],[(6,some (rI (a0 ++ [a8]))),(2,none),(5,none)],[6]⟩),oN]) [13,7] [(7,.rs 6)] [(1,K1v s0),(6,rI (a0 ++ [a8]))] (ab (ix a5) (ix a7) (cq (Kc3 _ _ a9) K4a (ab (congrArg (fun z => (⟨[(28,.rs 6)],[(6,some (.arr z)),(2,none),(5,none)],[6]⟩ : Wr)) ((List.map_append).symm : (List.map I a0) ++ (List.map I [a8]) = List.map I (a0 ++ [a8]))) (Qej (enc1 := I) (enc2 := I) (e1 := a0) (e2 := [a8]) (sz := 1) Qes Qes b1) tv))) (K9a hc 3 [(1,sI a1),(2,sI b2),(3,.ra 1 0),(7,.rs 6),(8,I (wr (a2 + 1)))] (Qdn (WpL.view (fun a w hv => SRx.renL [(2,6)] hv (by kernel_rfl) (by kernel_rfl) (by kernel_rfl)) (spec_l3Join_l0_ih _ _ h c hc))))
 obtain rfl := os h
 exact xt 0 (Qdh (Qdo (iv [])))
def Kfm (p : K00 × (List Int) × (List Int)) : Option ((List Int)) :=
 match p with
 | (s0,a1,b2) =>
  (Kfj (s0,a1,b2,[],0)) >>= fun a0 =>
  some a0
def Kfn (p : K00 × (List Int) × (List Int)) (r : (List Int)) : Prop :=
 match p with
 | (s0,a1,b2) => Q77 Tryz.prog 253 [K1w s0,sI a1,sI b2] (oI r) []
theorem Kfo : ∀ p r,Kfm p = some r → Kfn p r := by
 rintro ⟨s0,a1,b2⟩ r h
 unfold Kfm at h
 refine b0 Tryz.f253 K62 30 [(0,K1w s0),(1,sI a1),(2,sI b2)] fun c hc => (rsd hc none [nW 1,oN] [0] [(3,.ra 1 0)] [(1,K1v s0)] tv (rsd hc none [mK 2,oN] [] [(7,.rs 2)] [(1,K1v s0),(2,.arr (List.map I []))] tv (sN (K9e hc 1 [(1,sI a1),(2,sI b2),(3,.ra 1 0),(7,.rs 2),(8,I 0)] (bk 0 ?_)))))
 obtain ⟨a0,a2,h⟩ := Qe5 h
 have hL := Kfl _ _ a2 c hc
 refine lp (wl hL ?_)
 obtain rfl := os h
 exact Qdj (K9e hc 2 [(6,.rs 2)] (rt (rq [true])))
def Kfp (c : Ctx) (s0 : K00) (ctx1 : LL) (t2 : K01) (a3 : K03) (a0 : K03) : ((List Int) × Bool) ⊕ (K03) → Exit → Q0a → Prop
 | .inl (a1,a2) => Qdr c .normal (mkS [(1,sL ctx1),(4,.ra 1 0),(6,.ra 2 0),(7,.ra 3 0),(8,.ra 4 0),(11,.ra 21 0),(13,I t2.fN),(14,.rs 27),(15,.bool a2)] [(1,K1v s0),(2,K1y t2),(3,K24 a3),(4,.box [.nils,.nils,I 0,.nils]),(21,K24 a0),(27,rI a1)])
 | .inr r => Qe0 TIx Tryz.f239 [] (K25 r)
def Kfq (c : Ctx) (s0 : K00) (ctx1 : LL) (t2 : K01) (a3 : K03) (a0 : K03) : ((List Int) × Bool) ⊕ (K03) → Exit → Q0a → Prop
 | .inl (a1,a2) => Qdr c .normal (mkS [(1,sL ctx1),(4,.ra 1 0),(6,.ra 2 0),(7,.ra 3 0),(8,.ra 4 0),(11,.ra 21 0),(13,I t2.fN),(14,.rs 22),(15,.bool a2)] [(1,K1v s0),(2,K1y t2),(3,K24 a3),(4,.box [.nils,.nils,I 0,.nils]),(21,K24 a0),(22,rI a1)])
 | .inr r => Qe0 TIx Tryz.f239 [] (K25 r)
def Kfr (c : Ctx) (s0 : K00) (ctx1 : LL) (t2 : K01) (a3 : K03) (a0 : K03) : (Int × (List Int) × Bool) ⊕ (K03) → Exit → Q0a → Prop
 | .inl (a1,a2,a4) => Qdr c .normal (mkS [(1,sL ctx1),(4,.ra 1 0),(6,.ra 2 0),(7,.ra 3 0),(8,.ra 4 0),(11,.ra 21 0),(13,I a1),(14,.rs 22),(15,.bool a4)] [(1,K1v s0),(2,K1y t2),(3,K24 a3),(4,.box [.nils,.nils,I 0,.nils]),(21,K24 a0),(22,rI a2)])
 | .inr r => Qe0 TIx Tryz.f239 [] (K25 r)
def Kfs : Option (List (List Nat)) := rx [[0],[1],[0],[0,2],[4],[5],[0],[0,6],[8],[9]]
def Kft : Option (List (List Nat)) := rx [[0],[0],[0,1],[0,1,2],[0,1,2,3],[0],[6],[7]]
def Kfu : Option (List (List Nat)) := rx [[0],[1],[2],[3],[3],[3,4],[3,4,5],[3,4,5,6],[3],[9],[10],[11]]
mutual
def Kfv (p : K00 × LL × K01) : Option (K03) :=
 match p with
 | (s0,ctx1,t2) =>
  if (t2.fOp == 0) = true then
  (Kf2 (ctx1.length : Int)) >>= fun a0 =>
  (idx a0 t2.fN) >>= fun a1 =>
  (idx ctx1 t2.fN) >>= fun a2 =>
  (Keo a2) >>= fun a3 =>
  some (K03.mk a3 (List.set a0 (Int.toNat t2.fN) 1) 0 [])
  else
  if (t2.fOp == 1) = true then
  (Kf2 (ctx1.length : Int)) >>= fun a4 =>
  some (K03.mk [0] a4 0 [])
  else
  ((
  if (t2.fOp == 9) = true then
  (Kex (ctx1,[t2.fType])) >>= fun a5 =>
  some (a5)
  else
  some (ctx1)
  ) : Option (LL)) >>= fun a6 =>
  (Kfx (s0,a6,t2,0)) >>= fun a7 =>
  if (a7.ffault != 0) = true then
  some a7
  else
  ((
  if (t2.fOp == 2) = true then
  some ((t2.fOp == 2))
  else
  some ((t2.fOp == 3))
  ) : Option (Bool)) >>= fun a8 =>
  if a8 = true then
  (idx a7.fty 0) >>= fun a9 =>
  if (a9 != 0) = true then
  (Kf5 2) >>= fun b1 =>
  some b1
  else
  (Kfy (s0,ctx1,t2,a7)) >>= fun b2 =>
  some b2
  else
  if (t2.fOp == 4) = true then
  (Kfx (s0,ctx1,t2,1)) >>= fun b3 =>
  if (b3.ffault != 0) = true then
  some b3
  else
  (Kdl (1,[a7.fty,b3.fty])) >>= fun b4 =>
  (Kfc (s0,a7.fneeds,1,b3.fneeds)) >>= fun b5 =>
  (Kff (b4,b5)) >>= fun b6 =>
  some b6
  else
  if (t2.fOp == 6) = true then
  (Kdl (2,[a7.fty,t2.fType])) >>= fun b7 =>
  (Kff (b7,a7.fneeds)) >>= fun b8 =>
  some b8
  else
  if (t2.fOp == 7) = true then
  (Kdl (2,[t2.fType,a7.fty])) >>= fun b9 =>
  (Kff (b9,a7.fneeds)) >>= fun c0 =>
  some c0
  else
  if (t2.fOp == 9) = true then
  (idx a7.fneeds 0) >>= fun c1 =>
  (Kbn (s0,c1,t2.fN)) >>= fun c2 =>
  if c2 = true then
  (Kdl ((wr (3 + t2.fN)),[t2.fType,a7.fty])) >>= fun c3 =>
  (cut a7.fneeds (some 1) none none) >>= fun c4 =>
  (Keo c4) >>= fun c5 =>
  (Kff (c3,c5)) >>= fun c6 =>
  some c6
  else
  (Kf5 9) >>= fun c7 =>
  some c7
  else
  if (t2.fOp == 11) = true then
  (Kdl ((wr (19 + t2.fN)),[a7.fty])) >>= fun c8 =>
  (Kf2 (ctx1.length : Int)) >>= fun c9 =>
  (Kfc (s0,c9,t2.fN,a7.fneeds)) >>= fun d0 =>
  (Kff (c8,d0)) >>= fun d1 =>
  some d1
  else
  if (t2.fOp == 10) = true then
  (idx a7.fty 0) >>= fun d2 =>
  (Ke8 d2) >>= fun d3 =>
  if d3 = true then
  (Kfx (s0,ctx1,t2,1)) >>= fun d4 =>
  if (d4.ffault != 0) = true then
  some d4
  else
  (Ker (a7.fty,0)) >>= fun d5 =>
  (Ke2 (d4.fty,d5)) >>= fun d6 =>
  if d6 = true then
  (Ker (a7.fty,1)) >>= fun d7 =>
  (idx a7.fty 0) >>= fun d8 =>
  (Keu d8) >>= fun d9 =>
  (Kfc (s0,a7.fneeds,d9,d4.fneeds)) >>= fun e0 =>
  some (K03.mk d7 e0 0 [])
  else
  (Kf5 3) >>= fun e1 =>
  some e1
  else
  (Kf5 6) >>= fun e2 =>
  some e2
  else
  (Kfw (s0,ctx1,t2,a7)) >>= fun e3 =>
  some e3
 partial_fixpoint
def Kfw (p : K00 × LL × K01 × K03) : Option (K03) :=
 match p with
 | (s0,ctx1,t2,a3) =>
  (idx a3.fty 0) >>= fun a0 =>
  ((
  if (t2.fOp == 5) = true then
  some ((a0 != 1))
  else
  some (false)
  ) : Option (Bool)) >>= fun a1 =>
  if a1 = true then
  (Kf5 4) >>= fun a2 =>
  some a2
  else
  ((
  if (t2.fOp == 8) = true then
  some ((a0 != 2))
  else
  some (false)
  ) : Option (Bool)) >>= fun a4 =>
  if a4 = true then
  (Kf5 5) >>= fun a5 =>
  some a5
  else
  ((
  if (t2.fOp == 12) = true then
  (Keb a0) >>= fun a6 =>
  some ((!a6))
  else
  some (false)
  ) : Option (Bool)) >>= fun a7 =>
  if a7 = true then
  (Kf5 7) >>= fun a8 =>
  some a8
  else
  (Kbn (s0,1,t2.fN)) >>= fun a9 =>
  if a9 = true then
  (Ker (a3.fty,0)) >>= fun b1 =>
  ((
  if (t2.fOp == 5) = true then
   (Ker (a3.fty,1)) >>= fun b2 =>
   (Ker (a3.fty,0)) >>= fun b3 =>
   some ([b2,b3])
  else
   some ([b1])
  ) : Option (LL)) >>= fun b4 =>
  (Kex (ctx1,b4)) >>= fun b5 =>
  (Kfx (s0,b5,t2,1)) >>= fun b6 =>
  if (b6.ffault != 0) = true then
  some b6
  else
  (cut b6.fneeds (some (b4.length : Int)) none none) >>= fun b7 =>
  (Keo b7) >>= fun b8 =>
  ((
   if (t2.fOp == 12) = true then
   (Keu a0) >>= fun b9 =>
   (Kbk (s0,t2.fN,b9)) >>= fun c0 =>
   some (.inl (c0,b8,true))
   else
   ((
    if (t2.fOp == 5) = true then
    (idx b6.fneeds 1) >>= fun c1 =>
    (Kbn (s0,c1,t2.fN)) >>= fun c2 =>
    some (.inl (b8,c2))
    else
    ((
     if (t2.fOp == 8) = true then
     (Ker (a3.fty,1)) >>= fun c3 =>
     (Kex (ctx1,[c3])) >>= fun c4 =>
     (Kfx (s0,c4,t2,2)) >>= fun c5 =>
     if (c5.ffault != 0) = true then
     some (.inr c5)
     else
     (Ke2 (b6.fty,c5.fty)) >>= fun c6 =>
     if c6 = true then
     (idx c5.fneeds 0) >>= fun c7 =>
     (Kbn (s0,c7,t2.fN)) >>= fun c8 =>
     (cut c5.fneeds (some 1) none none) >>= fun c9 =>
     (Kfm (s0,b8,c9)) >>= fun d0 =>
     some (.inl (d0,c8))
     else
     (Kf5 3) >>= fun d1 =>
     some (.inr d1)
     else
     some (.inl (b8,true))) : Option (((List Int) × Bool) ⊕ (K03))) >>= fun fl => match fl with
    | .inl (d2,d3) =>
     some (.inl (d2,d3))
    | .inr r =>
     some (.inr r)) : Option (((List Int) × Bool) ⊕ (K03))) >>= fun fl => match fl with
   | .inl (d4,d5) =>
    some (.inl (t2.fN,d4,d5))
   | .inr r =>
    some (.inr r)) : Option ((Int × (List Int) × Bool) ⊕ (K03))) >>= fun fl => match fl with
  | .inl (d6,d7,d8) =>
   ((
   if d8 = true then
    (idx b6.fneeds 0) >>= fun d9 =>
    (Kbn (s0,d9,d6)) >>= fun e0 =>
    some ((!e0))
   else
    some (true)
   ) : Option (Bool)) >>= fun e1 =>
   if e1 = true then
   (Kf5 9) >>= fun e2 =>
   some e2
   else
   (Kf2 (ctx1.length : Int)) >>= fun e3 =>
   (Kfc (s0,e3,t2.fN,a3.fneeds)) >>= fun e4 =>
   (Kfc (s0,e4,1,d7)) >>= fun e5 =>
   some (K03.mk b6.fty e5 0 [])
  | .inr r =>
   some r
  else
  (Kf5 8) >>= fun e6 =>
  some e6
 partial_fixpoint
def Kfx (p : K00 × LL × K01 × Int) : Option (K03) :=
 match p with
 | (s0,ctx1,t2,k3) =>
  (idx t2.fKids k3) >>= fun a0 =>
  (Kfv (s0,ctx1,a0)) >>= fun a1 =>
  ((
  if (a1.ffault != 0) = true then
  (Qei ([k3].length + a1.fpath.length) 8) >>= fun _ =>
  some (([k3] ++ a1.fpath))
  else
  some (a1.fpath)
  ) : Option ((List Int))) >>= fun a2 =>
  some (K03.mk a1.fty a1.fneeds a1.ffault a2)
 partial_fixpoint
def Kfy (p : K00 × LL × K01 × K03) : Option (K03) :=
 match p with
 | (s0,ctx1,t2,a3) =>
  (Kfx (s0,ctx1,t2,1)) >>= fun a0 =>
  if (a0.ffault != 0) = true then
  some a0
  else
  if (t2.fOp == 2) = true then
  (idx a0.fty 0) >>= fun a1 =>
  if (a1 != 0) = true then
  (Kf5 2) >>= fun a2 =>
  some a2
  else
  (Kfc (s0,a3.fneeds,1,a0.fneeds)) >>= fun a4 =>
  some (K03.mk a0.fty a4 0 [])
  else
  (Kfx (s0,ctx1,t2,2)) >>= fun a5 =>
  if (a5.ffault != 0) = true then
  some a5
  else
  (Ke2 (a0.fty,a5.fty)) >>= fun a6 =>
  if a6 = true then
  (Kfm (s0,a0.fneeds,a5.fneeds)) >>= fun a7 =>
  (Kfc (s0,a3.fneeds,1,a7)) >>= fun a8 =>
  some (K03.mk a0.fty a8 0 [])
  else
  (Kf5 3) >>= fun a9 =>
  some a9
 partial_fixpoint
end
def Kfz (p : K00 × LL × K01) (r : K03) : Prop :=
 match p with
 | (s0,ctx1,t2) => Q77 Tryz.prog 203 [K1w s0,sL ctx1,K1z t2] (K25 r) []
def Kg0 (p : K00 × LL × K01 × K03) (r : K03) : Prop :=
 match p with
 | (s0,ctx1,t2,a3) => Q77 Tryz.prog 239 [K1w s0,sL ctx1,K1z t2,K25 a3] (K25 r) []
def Kg1 (p : K00 × LL × K01 × Int) (r : K03) : Prop :=
 match p with
 | (s0,ctx1,t2,k3) => Q77 Tryz.prog 234 [K1w s0,sL ctx1,K1z t2,I k3] (K25 r) []
def Kg2 (p : K00 × LL × K01 × K03) (r : K03) : Prop :=
 match p with
 | (s0,ctx1,t2,a3) => Q77 Tryz.prog 236 [K1w s0,sL ctx1,K1z t2,K25 a3] (K25 r) []
theorem Kg3 : (∀ p r,Kfv p = some r → Kfz p r) ∧ (∀ p r,Kfw p = some r → Kg0 p r) ∧ (∀ p r,Kfx p = some r → Kg1 p r) ∧ (∀ p r,Kfy p = some r → Kg2 p r) := by
 refine Kfv.mutual_partial_correctness Kfz Kg0 Kg1 Kg2 ?_ ?_ ?_ ?_
 ·rintro spec_l3Taken_f spec_l3Of_f spec_l3Numbers_f spec_l3Taken_ih spec_l3Of_ih spec_l3Numbers_ih ⟨s0,ctx1,t2⟩ r h
  refine b0 Tryz.f203 K60 206 [(0,K1w s0),(1,sL ctx1),(2,K1z t2)] fun c hc => (rsd hc none [nW 1,nW 2,nW 3] [0,2] [(3,.ra 1 0),(5,.ra 2 0),(6,.ra 3 0)] [(1,K1v s0),(2,K1y t2),(3,.box [.nils,.nils,I 0,.nils])] tv (sN (K9h hc 2 [] [(13,I t2.fOp)] (bk 0 (K9h hc 2 [] [(14,.bool (t2.fOp == 0))] (ic h (fun a0 h => ?_) fun a0 h => ?_))))))
  ·obtain ⟨a1,a2,h⟩ := Qe5 h
   refine rsd hc none [oN,nQ ⟨[(17,I (ctx1.length : Int))],[],[]⟩,some (.call (oI a1) [] 4),oN] [14,13,3] [(7,.rs 4)] [(2,K1y t2),(3,.box [.nils,.nils,I 0,.nils]),(4,rI a1)] (ai (Qeb (d := 17) K14 ctx1) (cq (Kf4 _ _ a2) K5n tv)) ?_
   obtain ⟨a4,a5,h⟩ := Qe5 h
   refine rsd hc none (nN 4 [some (.eqv (.mk 0 true) ⟨[],[(4,some (.arr (List.map I (List.set a1 (Int.toNat t2.fN) 1))))],[]⟩)]) [] [] [(2,K1y t2),(3,.box [.nils,.nils,I 0,.nils]),(4,.arr (List.map I (List.set a1 (Int.toNat t2.fN) 1)))] (ac (Qea (enc := I) a5) (congrArg (fun z => (⟨[],[(4,some (.arr z))],[]⟩ : Wr)) (Qf8 (enc := I) (i := Int.toNat t2.fN) (l := a1) (v := 1) (x := I 1) (Qek 1))) (Qf9 (enc := I) (sz := 1) Qeo a5) tv) ?_
   obtain ⟨a6,a7,a8,a9,h⟩ := bq2 h
   refine rs hc none [oN,oN,oN,eL (sI a6),oN,some (.call (oI a8) [] 5),oN,oN,oN] [(6,.ra 3 0)] [(3,.box [.rs 5,.rs 4,I 0,.nils]),(4,.arr (List.map I (List.set a1 (Int.toNat t2.fN) 1))),(5,rI a8)] (ai (xL a7) (cq (Keq _ _ a9) K5d tv)) (vz 5 (Qex a8) [(6,.ra 3 0)] [(3,.box [sI a8,.rs 4,I 0,.nils]),(4,.arr (List.map I (List.set a1 (Int.toNat t2.fN) 1)))] (vz 4 (Qex (List.set a1 (Int.toNat t2.fN) 1)) [(6,.ra 3 0)] [(3,.box [sI a8,.sl (List.map I (List.set a1 (Int.toNat t2.fN) 1)),I 0,.nils])] ?_))
   obtain rfl := os h
   exact rt (rq [false])
  refine K9h hc 2 [14,13] [(31,.bool (t2.fOp == 1))] (ic h (fun b1 h => ?_) fun b1 h => ?_)
  ·obtain ⟨b2,b3,h⟩ := Qe5 h
   refine rs hc none [mK 6,oN,nQ ⟨[(35,I (ctx1.length : Int))],[],[]⟩,some (.call (oI b2) [] 7),oN,oN] [(6,.ra 3 0)] [(3,.box [.rs 6,.rs 7,I 0,.nils]),(6,.arr (List.map I [0])),(7,rI b2)] (ai (Qeb (d := 35) K14 ctx1) (cq (Kf4 _ _ b3) K5n tv)) (vz 6 (Qex [0]) [(6,.ra 3 0)] [(3,.box [.sl (List.map I [0]),.rs 7,I 0,.nils]),(7,rI b2)] (vz 7 (Qex b2) [(6,.ra 3 0)] [(3,.box [.sl (List.map I [0]),sI b2,I 0,.nils])] ?_))
   obtain rfl := os h
   exact rt (rq [false])
  refine sk (K9h hc 2 [31] [(8,sL ctx1)] (sN (K9e hc 3 [(1,sL ctx1),(3,.ra 1 0),(5,.ra 2 0),(6,.ra 3 0),(8,sL ctx1),(41,.bool (t2.fOp == 9))] ?_)))
  obtain ⟨b4,b5,h⟩ := Qe5 h
  refine wi [8,41] [(8,sL b4)] ?_ ?_
  ·replace h := b5
   refine ic h (fun b6 h => ?_) fun b6 h => ?_
   ·obtain ⟨b7,b8,h⟩ := Qe5 h
    obtain rfl := os h
    exact rgd hc none [oN,oN,oN,some (.mk 8 false),some (.call (.osl (List.map K14 b7)) [.tup []] 9),oN] [8,41] [(8,.rs 9)] [(1,K1v s0),(2,K1y t2),(3,.box [.nils,.nils,I 0,.nils]),(9,rM K14 b7)] (ab (Q77.args (A1 := [sL ctx1,.sl (Q02 (List.map K14 [t2.fType]))]) (A2 := [sL ctx1,.sl (List.map K14 [t2.fType])]) (by simp only [List.map_nil,K18]) (Kez _ _ b8)) K5l tv) (Qdr.view (fun a w hv => SRx.renL [] (SRx.frzC 9 (xs := List.map K14 b7) (xs' := List.map K14 b7) hv (by kernel_rfl) (K18 _)) (by kernel_rfl) (by kernel_rfl) (by kernel_rfl)))
   obtain rfl := os h
   exact sk (iv [])
  clear b5
  obtain ⟨b9,c0,h⟩ := Qe5 h
  refine rsd hc none [oN,oN,oN,oc (K25 b9),nW 10,oN] [8] [(9,.ra 10 0)] [(1,K1v s0),(2,K1y t2),(3,.box [.nils,.nils,I 0,.nils]),(10,K24 b9)] (cq (spec_l3Of_ih _ _ c0) K5p tv) (sN (K9h hc 3 [] [(53,.bool (b9.ffault != 0))] (ic h (fun c1 h => ?_) fun c1 h => ?_)))
  ·obtain rfl := os h
   exact rs0 hc 2 [(6,.ra 3 0)] [(3,K24 b9)] (rt (rq [false]))
  refine sk (sN (K9h hc 2 [53] [(56,I t2.fOp)] (bk 1 (sN (K9h hc 2 [] [(57,.bool (t2.fOp == 2))] ?_)))))
  obtain ⟨c2,c3,h⟩ := Qe5 h
  refine Wp.into (x := .normal) (mkS [(1,sL ctx1),(3,.ra 1 0),(5,.ra 2 0),(6,.ra 3 0),(9,.ra 10 0),(56,I t2.fOp),(57,.bool c2)] [(1,K1v s0),(2,K1y t2),(3,.box [.nils,.nils,I 0,.nils]),(10,K24 b9)]) ?_ ?_
  ·replace h := c3
   refine ic h (fun c4 h => ?_) fun c4 h => ?_
   ·obtain rfl := os h
    exact sk im
   obtain rfl := os h
   exact rj0 hc 2
  clear c3
  refine ic h (fun c5 h => ?_) fun c5 h => ?_
  ·refine sN ?_
   obtain ⟨c6,c7,h⟩ := Qe5 h
   refine K9g hc none [oN,oN,eL (I c6),oN,oN] [56,57] [(64,.bool (c6 != 0))] (ai (ix c7) tv) (ic h (fun c8 h => ?_) fun c8 h => ?_)
   ·obtain ⟨c9,d0,h⟩ := Qe5 h
    refine rs hc none [some (.call (K2j c9) [] 11),oN] [(6,.ra 3 0)] [(3,.box [.rs 11,.rs 12,I c9.ffault,.rs 13]),(11,rI c9.fty),(12,rI c9.fneeds),(13,rI c9.fpath)] (cq (Kf7 _ _ d0) K5r tv) (vz 11 (Qex c9.fty) [(6,.ra 3 0)] [(3,.box [sI c9.fty,.rs 12,I c9.ffault,.rs 13]),(12,rI c9.fneeds),(13,rI c9.fpath)] (vz 12 (Qex c9.fneeds) [(6,.ra 3 0)] [(3,.box [sI c9.fty,sI c9.fneeds,I c9.ffault,.rs 13]),(13,rI c9.fpath)] (vz 13 (Qex c9.fpath) [(6,.ra 3 0)] [(3,K24 c9)] ?_)))
    obtain rfl := os h
    exact rt (rq [false])
   refine sk ?_
   obtain ⟨d1,d2,h⟩ := Qe5 h
   obtain rfl := os h
   exact rs hc none (nN 4 [oc (K25 d1),oN]) [(6,.ra 3 0)] [(3,K24 d1)] (cq (spec_l3Numbers_ih _ _ d2) K5t tv) (rt (rq [false]))
  refine K9h hc 2 [57] [(71,.bool (t2.fOp == 4))] (ic h (fun d3 h => ?_) fun d3 h => ?_)
  ·obtain ⟨d4,d5,h⟩ := Qe5 h
   refine rsd hc none [oN,oN,oN,oc (K25 d4),nW 14,oN] [71,1,5,56] [(10,.ra 14 0)] [(1,K1v s0),(3,.box [.nils,.nils,I 0,.nils]),(10,K24 b9),(14,K24 d4)] (cq (spec_l3Of_ih _ _ d5) K5p tv) (sN (K9h hc 3 [] [(79,.bool (d4.ffault != 0))] (ic h (fun d6 h => ?_) fun d6 h => ?_)))
   ·obtain rfl := os h
    exact rs0 hc 2 [(6,.ra 3 0)] [(3,K24 d4)] (rt (rq [false]))
   refine sk ?_
   obtain ⟨d7,d8,d9,e0,e3,e4,h⟩ := bq3 h
   obtain rfl := os h
   exact rs hc (rx [[0],[1],[0],[0,2],[4],[5],[0],[0],[0,7],[0],[0,9],[11],[12],[13]]) (nN 4 ([some (.mk 15 false),some (.call (oI d7) [] 16)]++nN 5 [some (.call (oI d9) [] 17),some (.call (K25 e3) [.tup []] 1),oN])) [(6,.ra 3 0)] [(3,K24 e3)] (ac (Q77.args (A1 := [I 1,.sl (Q02 (List.map K14 [b9.fty,d4.fty]))]) (A2 := [I 1,.sl (List.map K14 [b9.fty,d4.fty])]) (by simp only [List.map_nil,K18]) (Kdn _ _ d8)) K4t (Or.inr (Qf5 Qf1 d7) : ([15] : List Nat) = [] ∨ noSh (oI d7) = true) (cq (Kfe _ _ e0) K5v (ab (Q77.args (A1 := [.sl (Q02 (List.map I d7)),.sl (Q02 (List.map I d9))]) (A2 := [sI d7,sI d9]) (by simp only [List.map_nil,Qex]) (Kfh _ _ e4)) K5x tv))) (rt (rq [false]))
  refine K9h hc 2 [71] [(94,.bool (t2.fOp == 6))] (ic h (fun e5 h => ?_) fun e5 h => ?_)
  ·obtain ⟨e6,e7,e8,e9,h⟩ := bq2 h
   obtain rfl := os h
   exact rs hc Kfs (nN 4 [some (.mk 18 false),some (.call (oI e6) [] 19),oN,oN,some (.call (K25 e8) [.tup []] 1),oN]) [(6,.ra 3 0)] [(3,K24 e8)] (ad (Q77.args (A1 := [I 2,.sl (Q02 (List.map K14 [b9.fty,t2.fType]))]) (A2 := [I 2,.sl (List.map K14 [b9.fty,t2.fType])]) (by simp only [List.map_nil,K18]) (Kdn _ _ e7)) K4t (Or.inr (Qf5 Qf1 e6) : ([18] : List Nat) = [] ∨ noSh (oI e6) = true) (Q77.args (A1 := [.sl (Q02 (List.map I e6)),sI b9.fneeds]) (A2 := [sI e6,sI b9.fneeds]) (by simp only [List.map_nil,Qex]) (Kfh _ _ e9)) (ai K5x tv)) (rt (rq [false]))
  refine K9h hc 2 [94] [(105,.bool (t2.fOp == 7))] (ic h (fun f0 h => ?_) fun f0 h => ?_)
  ·obtain ⟨f1,f2,f3,f4,h⟩ := bq2 h
   obtain rfl := os h
   exact rs hc Kfs (nN 4 [some (.mk 20 false),some (.call (oI f1) [] 21),oN,oN,some (.call (K25 f3) [.tup []] 1),oN]) [(6,.ra 3 0)] [(3,K24 f3)] (ad (Q77.args (A1 := [I 2,.sl (Q02 (List.map K14 [t2.fType,b9.fty]))]) (A2 := [I 2,.sl (List.map K14 [t2.fType,b9.fty])]) (by simp only [List.map_nil,K18]) (Kdn _ _ f2)) K4t (Or.inr (Qf5 Qf1 f1) : ([20] : List Nat) = [] ∨ noSh (oI f1) = true) (Q77.args (A1 := [.sl (Q02 (List.map I f1)),sI b9.fneeds]) (A2 := [sI f1,sI b9.fneeds]) (by simp only [List.map_nil,Qex]) (Kfh _ _ f4)) (ai K5x tv)) (rt (rq [false]))
  refine K9h hc 2 [105] [(116,.bool (t2.fOp == 9))] (ic h (fun f5 h => ?_) fun f5 h => ?_)
  ·refine sN ?_
   obtain ⟨f6,f7,f8,f9,h⟩ := bq2 h
   refine rsd hc (rx [[0],[0],[0,1],[0,1,2],[0,1,2,3],[0],[0,5],[7],[8]]) [oN,oN,oN,eL (I f6),oN,oN,oN,oc (.bool f8),oN] [116,1,3,56] [(126,.bool (!f8))] [(2,K1y t2),(3,.box [.nils,.nils,I 0,.nils]),(10,K24 b9)] (ai (ix f7) (cq (Kbp _ _ f9) K46 tv)) ?_
   rcases is h with ⟨g0,h⟩ | ⟨g0,h⟩
   ·refine cF (!f8) (nF g0) (sk ?_)
    obtain ⟨g1,g2,g3,g4,g5,g6,g7,g8,h⟩ := bq4 h
    obtain rfl := os h
    exact rs hc (rx [[0],[1],[2],[0],[0,3],[0],[0,5],[0,3,4,5,6],[8],[0],[0,9],[0,9,10],[12],[13],[14]]) (nN 7 [some (.mk 22 false),some (.call (oI g1) [] 23),oN,oN,nQ ⟨[(139,sI g3)],[],[]⟩,some (.call (oI g5) [] 24),some (.call (K25 g7) [.tup []] 1),oN]) [(6,.ra 3 0)] [(3,K24 g7)] (ad (Q77.args (A1 := [I (wr (3 + t2.fN)),.sl (Q02 (List.map K14 [t2.fType,b9.fty]))]) (A2 := [I (wr (3 + t2.fN)),.sl (List.map K14 [t2.fType,b9.fty])]) (by simp only [List.map_nil,K18]) (Kdn _ _ g2)) K4t (Or.inr (Qf5 Qf1 g1) : ([22] : List Nat) = [] ∨ noSh (oI g1) = true) (Qee (d := 139) I g4) (ai (Qed (enc := I) (sz := 1) Qeo g4) (cq (Keq _ _ g6) K5d (ab (Q77.args (A1 := [.sl (Q02 (List.map I g1)),.sl (Q02 (List.map I g5))]) (A2 := [sI g1,sI g5]) (by simp only [List.map_nil,Qex]) (Kfh _ _ g8)) K5x tv)))) (rt (rq [false]))
   refine cT (!f8) (nT g0) ?_
   obtain ⟨g9,i0,h⟩ := Qe5 h
   refine rs hc none [some (.call (K2j g9) [] 25),oN] [(6,.ra 3 0)] [(3,.box [.rs 25,.rs 26,I g9.ffault,.rs 27]),(25,rI g9.fty),(26,rI g9.fneeds),(27,rI g9.fpath)] (cq (Kf7 _ _ i0) K5r tv) (vz 25 (Qex g9.fty) [(6,.ra 3 0)] [(3,.box [sI g9.fty,.rs 26,I g9.ffault,.rs 27]),(26,rI g9.fneeds),(27,rI g9.fpath)] (vz 26 (Qex g9.fneeds) [(6,.ra 3 0)] [(3,.box [sI g9.fty,sI g9.fneeds,I g9.ffault,.rs 27]),(27,rI g9.fpath)] (vz 27 (Qex g9.fpath) [(6,.ra 3 0)] [(3,K24 g9)] ?_)))
   obtain rfl := os h
   exact rt (rq [false])
  refine K9h hc 2 [116] [(142,.bool (t2.fOp == 11))] (ic h (fun i1 h => ?_) fun i1 h => ?_)
  ·obtain ⟨i2,i3,i4,i5,i6,i7,i8,i9,h⟩ := bq4 h
   obtain rfl := os h
   exact rs hc (rx [[0],[1],[2],[0],[0,3],[0,3,4],[6],[0],[0],[0,8],[7,8,9],[0],[0,11],[0],[0,13],[15],[16],[17]]) (nN 5 ([some (.mk 28 false),some (.call (oI i2) [] 29),oN,oN,nQ ⟨[(153,I (ctx1.length : Int))],[],[]⟩,some (.call (oI i4) [] 30)]++nN 4 [some (.call (oI i6) [] 31),some (.call (K25 i8) [.tup []] 1),oN])) [(6,.ra 3 0)] [(3,K24 i8)] (ad (Q77.args (A1 := [I (wr (19 + t2.fN)),.sl (Q02 (List.map K14 [b9.fty]))]) (A2 := [I (wr (19 + t2.fN)),.sl (List.map K14 [b9.fty])]) (by simp only [List.map_nil,K18]) (Kdn _ _ i3)) K4t (Or.inr (Qf5 Qf1 i2) : ([28] : List Nat) = [] ∨ noSh (oI i2) = true) (Qeb (d := 153) K14 ctx1) (cq (Kf4 _ _ i5) K5n (ad (Q77.args (A1 := [K1w s0,.sl (Q02 (List.map I i4)),I t2.fN,sI b9.fneeds]) (A2 := [K1w s0,sI i4,I t2.fN,sI b9.fneeds]) (by simp only [List.map_nil,Qex]) (Kfe _ _ i7)) K5v (Or.inr (Qf5 Qf1 i6) : ([30] : List Nat) = [] ∨ noSh (oI i6) = true) (Q77.args (A1 := [.sl (Q02 (List.map I i2)),.sl (Q02 (List.map I i6))]) (A2 := [sI i2,sI i6]) (by simp only [List.map_nil,Qex]) (Kfh _ _ i9)) (ai K5x tv)))) (rt (rq [false]))
  refine K9e hc 2 [(1,sL ctx1),(3,.ra 1 0),(5,.ra 2 0),(6,.ra 3 0),(9,.ra 10 0),(161,.bool (t2.fOp == 10))] (ic h (fun j0 h => ?_) fun j0 h => ?_)
  ·refine sN ?_
   obtain ⟨j8,j9,k0,k1,h⟩ := bq2 h
   refine K9g hc none [oN,oN,eL (I j8),oN,oc (.bool k0),oN] [161] [(168,.bool (!k0))] (ai (ix j9) (cq (Kea _ _ k1) K55 tv)) ?_
   rcases is h with ⟨k2,h⟩ | ⟨k2,h⟩
   ·refine cF (!k0) (nF k2) (sk ?_)
    obtain ⟨k4,k5,h⟩ := Qe5 h
    refine rsd hc none [oN,oN,oN,oc (K25 k4),nW 32,oN] [168,1,5] [(11,.ra 32 0)] [(1,K1v s0),(3,.box [.nils,.nils,I 0,.nils]),(10,K24 b9),(32,K24 k4)] (cq (spec_l3Of_ih _ _ k5) K5p tv) (sN (K9h hc 3 [] [(176,.bool (k4.ffault != 0))] (ic h (fun k6 h => ?_) fun k6 h => ?_)))
    ·obtain rfl := os h
     exact rs0 hc 2 [(6,.ra 3 0)] [(3,K24 k4)] (rt (rq [false]))
    refine sk (sN ?_)
    obtain ⟨k7,k8,k9,l0,h⟩ := bq2 h
    refine K9g hc (rx [[0],[1],[0],[0,2],[0,2,3],[5],[6]]) (nN 4 [some (.call (oI k7) [] 33),oc (.bool k9),oN]) [176] [(184,.bool (!k9))] (cq (Ket _ _ k8) K5f (ac (Q77.args (A1 := [sI k4.fty,.sl (Q02 (List.map I k7))]) (A2 := [sI k4.fty,sI k7]) (by simp only [List.map_nil,Qex]) (Ke4 _ _ l0)) K4x (Or.inr rfl : ([33] : List Nat) = [] ∨ noSh (.bool k9) = true) tv)) ?_
    rcases is h with ⟨l1,h⟩ | ⟨l1,h⟩
    ·refine cF (!k9) (nF l1) (sk ?_)
     obtain ⟨l2,l3,l4,l5,l6,l7,l8,l9,h⟩ := bq4 h
     refine rs hc (rx [[0],[1],[2],[0],[0],[0,4],[0],[0,6],[0,6,7],[0,6,7,8],[3,6,7,8,9],[0],[0,11],[13],[14],[15]]) ([oN,oN,some (.call (oI l2) [] 34)]++nN 5 [eL (I l4),oN,oc (I l6),oN,oN,some (.call (oI l8) [] 35),oN,oN]) [(6,.ra 3 0)] [(3,.box [.rs 34,.rs 35,I 0,.nils]),(34,rI l2),(35,rI l8)] (cq (Ket _ _ l3) K5f (ai (ix l5) (cq (Kew _ _ l7) K5h (cq (Kfe _ _ l9) K5v tv)))) (vz 34 (Qex l2) [(6,.ra 3 0)] [(3,.box [sI l2,.rs 35,I 0,.nils]),(35,rI l8)] (vz 35 (Qex l8) [(6,.ra 3 0)] [(3,.box [sI l2,sI l8,I 0,.nils])] ?_))
     obtain rfl := os h
     exact rt (rq [false])
    refine cT (!k9) (nT l1) ?_
    obtain ⟨m0,m1,h⟩ := Qe5 h
    refine rs hc none [some (.call (K2j m0) [] 36),oN] [(6,.ra 3 0)] [(3,.box [.rs 36,.rs 37,I m0.ffault,.rs 38]),(36,rI m0.fty),(37,rI m0.fneeds),(38,rI m0.fpath)] (cq (Kf7 _ _ m1) K5r tv) (vz 36 (Qex m0.fty) [(6,.ra 3 0)] [(3,.box [sI m0.fty,.rs 37,I m0.ffault,.rs 38]),(37,rI m0.fneeds),(38,rI m0.fpath)] (vz 37 (Qex m0.fneeds) [(6,.ra 3 0)] [(3,.box [sI m0.fty,sI m0.fneeds,I m0.ffault,.rs 38]),(38,rI m0.fpath)] (vz 38 (Qex m0.fpath) [(6,.ra 3 0)] [(3,K24 m0)] ?_)))
    obtain rfl := os h
    exact rt (rq [false])
   refine cT (!k0) (nT k2) ?_
   obtain ⟨m2,m3,h⟩ := Qe5 h
   refine rs hc none [some (.call (K2j m2) [] 39),oN] [(6,.ra 3 0)] [(3,.box [.rs 39,.rs 40,I m2.ffault,.rs 41]),(39,rI m2.fty),(40,rI m2.fneeds),(41,rI m2.fpath)] (cq (Kf7 _ _ m3) K5r tv) (vz 39 (Qex m2.fty) [(6,.ra 3 0)] [(3,.box [sI m2.fty,.rs 40,I m2.ffault,.rs 41]),(40,rI m2.fneeds),(41,rI m2.fpath)] (vz 40 (Qex m2.fneeds) [(6,.ra 3 0)] [(3,.box [sI m2.fty,sI m2.fneeds,I m2.ffault,.rs 41]),(41,rI m2.fpath)] (vz 41 (Qex m2.fpath) [(6,.ra 3 0)] [(3,K24 m2)] ?_)))
   obtain rfl := os h
   exact rt (rq [false])
  refine sk ?_
  obtain ⟨m4,m5,h⟩ := Qe5 h
  obtain rfl := os h
  exact rs hc none (nN 4 [oc (K25 m4),oN]) [(6,.ra 3 0)] [(3,K24 m4)] (cq (spec_l3Taken_ih _ _ m5) K5z tv) (rt (rq [false]))
 ·rintro spec_l3Of_f spec_l3Of_ih ⟨s0,ctx1,t2,a3⟩ r h
  refine b0 Tryz.f239 K5y 170 [(0,K1w s0),(1,sL ctx1),(2,K1z t2),(3,K25 a3)] fun c hc => (rsd hc none [nW 1,nW 2,nW 3,nW 4] [0,2,3] [(4,.ra 1 0),(6,.ra 2 0),(7,.ra 3 0),(8,.ra 4 0)] [(1,K1v s0),(2,K1y t2),(3,K24 a3),(4,.box [.nils,.nils,I 0,.nils])] tv ?_)
  obtain ⟨m6,m7,h⟩ := Qe5 h
  refine K9g hc none [oN,oN,eL (I m6),oN,oN] [] [(9,I m6)] (ai (ix m7) tv) (sN (bk 0 (sN ?_)))
  obtain ⟨m8,m9,h⟩ := Qe5 h
  refine wi [] [(21,.bool m8)] ?_ ?_
  ·replace h := m9
   rcases is h with ⟨n0,h⟩ | ⟨n0,h⟩
   ·obtain rfl := os h
    exact rj hc none (nN 6 [oT,oN]) (ar 3 n0 tv)
   obtain rfl := os h
   exact rj hc none (nN 4 [o_,o_,oF,oN]) (ar 2 (neT n0) (ai n0 tv))
  clear m9
  refine ic h (fun b6 h => ?_) fun b6 h => ?_
  ·obtain ⟨n1,n2,h⟩ := Qe5 h
   refine rs hc none [some (.call (K2j n1) [] 5),oN] [(8,.ra 4 0)] [(4,.box [.rs 5,.rs 6,I n1.ffault,.rs 7]),(5,rI n1.fty),(6,rI n1.fneeds),(7,rI n1.fpath)] (cq (Kf7 _ _ n2) K5r tv) (vz 5 (Qex n1.fty) [(8,.ra 4 0)] [(4,.box [sI n1.fty,.rs 6,I n1.ffault,.rs 7]),(6,rI n1.fneeds),(7,rI n1.fpath)] (vz 6 (Qex n1.fneeds) [(8,.ra 4 0)] [(4,.box [sI n1.fty,sI n1.fneeds,I n1.ffault,.rs 7]),(7,rI n1.fpath)] (vz 7 (Qex n1.fpath) [(8,.ra 4 0)] [(4,K24 n1)] ?_)))
   obtain rfl := os h
   exact rt (rq [false])
  refine sN ?_
  obtain ⟨n3,n4,h⟩ := Qe5 h
  refine wi [21] [(30,.bool n3)] ?_ ?_
  ·replace h := n4
   rcases is h with ⟨n5,h⟩ | ⟨n5,h⟩
   ·obtain rfl := os h
    exact rj hc none (nN 6 [oT,oN]) (ar 3 n5 tv)
   obtain rfl := os h
   exact rj hc none (nN 4 [o_,o_,oF,oN]) (ar 2 (neT n5) (ai n5 tv))
  clear n4
  refine ic h (fun n6 h => ?_) fun n6 h => ?_
  ·obtain ⟨n7,n8,h⟩ := Qe5 h
   refine rs hc none [some (.call (K2j n7) [] 8),oN] [(8,.ra 4 0)] [(4,.box [.rs 8,.rs 9,I n7.ffault,.rs 10]),(8,rI n7.fty),(9,rI n7.fneeds),(10,rI n7.fpath)] (cq (Kf7 _ _ n8) K5r tv) (vz 8 (Qex n7.fty) [(8,.ra 4 0)] [(4,.box [sI n7.fty,.rs 9,I n7.ffault,.rs 10]),(9,rI n7.fneeds),(10,rI n7.fpath)] (vz 9 (Qex n7.fneeds) [(8,.ra 4 0)] [(4,.box [sI n7.fty,sI n7.fneeds,I n7.ffault,.rs 10]),(10,rI n7.fpath)] (vz 10 (Qex n7.fpath) [(8,.ra 4 0)] [(4,K24 n7)] ?_)))
   obtain rfl := os h
   exact rt (rq [false])
  refine sN ?_
  obtain ⟨n9,o0,h⟩ := Qe5 h
  refine wi [30] [(39,.bool n9)] ?_ ?_
  ·replace h := o0
   rcases is h with ⟨o1,h⟩ | ⟨o1,h⟩
   ·obtain ⟨o2,o3,h⟩ := Qe5 h
    obtain rfl := os h
    exact rj hc none (nN 5 [oc (.bool o2),oN,oT,oN]) (ar 2 o1 (cq (Ked _ _ o3) K57 (ar 2 o1 tv)))
   obtain rfl := os h
   exact rj hc none (nN 4 [o_,o_,o_,oF,oN]) (ar 3 (neT o1) (ai o1 tv))
  clear o0
  refine ic h (fun o4 h => ?_) fun o4 h => ?_
  ·obtain ⟨o5,o6,h⟩ := Qe5 h
   refine rs hc none [some (.call (K2j o5) [] 11),oN] [(8,.ra 4 0)] [(4,.box [.rs 11,.rs 12,I o5.ffault,.rs 13]),(11,rI o5.fty),(12,rI o5.fneeds),(13,rI o5.fpath)] (cq (Kf7 _ _ o6) K5r tv) (vz 11 (Qex o5.fty) [(8,.ra 4 0)] [(4,.box [sI o5.fty,.rs 12,I o5.ffault,.rs 13]),(12,rI o5.fneeds),(13,rI o5.fpath)] (vz 12 (Qex o5.fneeds) [(8,.ra 4 0)] [(4,.box [sI o5.fty,sI o5.fneeds,I o5.ffault,.rs 13]),(13,rI o5.fpath)] (vz 13 (Qex o5.fpath) [(8,.ra 4 0)] [(4,K24 o5)] ?_)))
   obtain rfl := os h
   exact rt (rq [false])
  refine sk (sN ?_)
  obtain ⟨o7,o8,h⟩ := Qe5 h
  refine rss hc none [oN,oN,oN,oc (.bool o7),oN] [(1,sL ctx1),(4,.ra 1 0),(6,.ra 2 0),(7,.ra 3 0),(8,.ra 4 0),(9,I m6),(53,.bool (!o7))] (cq (Kbp _ _ o8) K46 tv) ?_
  rcases is h with ⟨o9,h⟩ | ⟨o9,h⟩
  ·refine cF (!o7) (nF o9) (sk ?_)
   obtain ⟨p0,p1,h⟩ := Qe5 h
   refine rsd hc none [oN,oN,some (.call (oI p0) [] 14),mK 15,oN] [53] [(10,.rs 15)] [(1,K1v s0),(2,K1y t2),(3,K24 a3),(4,.box [.nils,.nils,I 0,.nils]),(15,.arr (List.map K10 [p0]))] (cq (Ket _ _ p1) K5f tv) (sN (K9h hc 3 [] [(61,.bool (t2.fOp == 5))] ?_))
   obtain ⟨p2,p3,h⟩ := Qe5 h
   refine Wp.into (x := .normal) (mkS [(1,sL ctx1),(4,.ra 1 0),(6,.ra 2 0),(7,.ra 3 0),(8,.ra 4 0),(9,I m6),(10,.rs 18)] [(1,K1v s0),(2,K1y t2),(3,K24 a3),(4,.box [.nils,.nils,I 0,.nils]),(18,rM K10 p2)]) ?_ ?_
   ·replace h := p3
    refine ic h (fun c5 h => ?_) fun c5 h => ?_
    ·obtain ⟨p4,p5,p6,p7,h⟩ := bq2 h
     obtain rfl := os h
     exact rj hc (rx [[0],[1],[2],[0],[0,3],[5],[6],[7]]) [oN,oN,some (.call (oI p4) [] 16),oN,oN,some (.call (oI p6) [] 17),mK 18,oN] (cq (Ket _ _ p5) K5f (cq (Ket _ _ p7) K5f tv))
    obtain rfl := os h
    exact sk (iv [(18,15)])
   clear p3
   refine sN (vz 18 (K19 p2) [(1,sL ctx1),(4,.ra 1 0),(6,.ra 2 0),(7,.ra 3 0),(8,.ra 4 0),(9,I m6),(10,sL p2)] [(1,K1v s0),(2,K1y t2),(3,K24 a3),(4,.box [.nils,.nils,I 0,.nils])] ?_)
   obtain ⟨p8,p9,q0,q1,h⟩ := bq2 h
   refine rgd hc (rx [[0],[0],[0],[0,1,2],[0],[5],[0],[7]]) [oN,oN,oN,some (.call (.osl (List.map K14 p8)) [] 20),oN,some (.call (K25 q0) [.tup []] 1),nW 21,oN] [] [(11,.ra 21 0)] [(1,K1v s0),(2,K1y t2),(3,K24 a3),(4,.box [.nils,.nils,I 0,.nils]),(21,K24 q0)] (cq (Kez _ _ p9) K5l (ab (Q77.args (A1 := [K1w s0,.sl (Q02 (List.map K14 p8)),K1z t2,I 1]) (A2 := [K1w s0,sL p8,K1z t2,I 1]) (by simp only [List.map_nil,K18]) (spec_l3Of_ih _ _ q1)) K5p tv)) (sN (K9h hc 3 [] [(77,.bool (q0.ffault != 0))] (ic h (fun d6 h => ?_) fun d6 h => ?_)))
   ·obtain rfl := os h
    exact rs0 hc 2 [(8,.ra 4 0)] [(4,K24 q0)] (rt (rq [false]))
   refine sk (K9g hc none [oN,nQ ⟨[(80,I (p2.length : Int))],[],[]⟩,oN] [77,10] [(12,I (p2.length : Int))] (ai (Qeb (d := 80) K14 p2) tv) (K9h hc 3 [] [(13,I t2.fN)] ?_))
   obtain ⟨q2,q3,q4,q5,h⟩ := bq2 h
   refine rsd hc none [oN,oN,oN,nQ ⟨[(86,sI q2)],[],[]⟩,some (.call (oI q4) [] 22),oN] [12] [(14,.rs 22)] [(1,K1v s0),(2,K1y t2),(3,K24 a3),(4,.box [.nils,.nils,I 0,.nils]),(21,K24 q0),(22,rI q4)] (ab (Qee (d := 86) I q3) (Qed (enc := I) (sz := 1) Qeo q3) (cq (Keq _ _ q5) K5d tv)) (K9e hc 1 [(1,sL ctx1),(4,.ra 1 0),(6,.ra 2 0),(7,.ra 3 0),(8,.ra 4 0),(9,I m6),(11,.ra 21 0),(13,I t2.fN),(14,.rs 22),(15,.bool true)] (sN (K9h hc 2 [] [(89,I t2.fOp)] (bk 1 (K9e hc 2 [(1,sL ctx1),(4,.ra 1 0),(6,.ra 2 0),(7,.ra 3 0),(8,.ra 4 0),(9,I m6),(11,.ra 21 0),(13,I t2.fN),(14,.rs 22),(15,.bool true),(89,I t2.fOp),(90,.bool (t2.fOp == 12))] ?_)))))
   obtain ⟨fl,q6,h⟩ := Qe5 h
   refine flw (Kfr c s0 ctx1 t2 a3 q0 fl) ?_ (fun hF => ?_)
   ·replace h := q6
    refine ic h (fun e5 h => ?_) fun e5 h => ?_
    ·obtain ⟨q7,q8,q9,r0,h⟩ := bq2 h
     obtain rfl := os h
     exact rj hc (rx [[0],[0],[0,1],[0],[0,3],[5],[6]]) (nN 4 [oc (I q7),oc (I q9),oN]) (cq (Kew _ _ q8) K5h (cq (Kbm _ _ r0) K44 tv))
    refine K9e hc 2 [(1,sL ctx1),(4,.ra 1 0),(6,.ra 2 0),(7,.ra 3 0),(8,.ra 4 0),(11,.ra 21 0),(13,I t2.fN),(14,.rs 22),(15,.bool true),(89,I t2.fOp),(98,.bool (t2.fOp == 5))] ?_
    obtain ⟨fl,r1,h⟩ := Qe5 h
    refine flw (Kfq c s0 ctx1 t2 a3 q0 fl) ?_ (fun hF => ?_)
    ·replace h := r1
     refine ic h (fun f0 h => ?_) fun f0 h => ?_
     ·obtain ⟨r2,r3,r4,r5,h⟩ := bq2 h
      obtain rfl := os h
      exact rj hc Kft [oN,oN,oN,eL (I r2),oN,oN,oc (.bool r4),oN] (ai (ix r3) (cq (Kbp _ _ r5) K46 tv))
     refine K9e hc 2 [(1,sL ctx1),(4,.ra 1 0),(6,.ra 2 0),(7,.ra 3 0),(8,.ra 4 0),(11,.ra 21 0),(13,I t2.fN),(14,.rs 22),(15,.bool true),(107,.bool (t2.fOp == 8))] ?_
     obtain ⟨fl,r6,h⟩ := Qe5 h
     refine flw (Kfp c s0 ctx1 t2 a3 q0 fl) ?_ (fun hF => ?_)
     ·replace h := r6
      refine ic h (fun f5 h => ?_) fun f5 h => ?_
      ·obtain ⟨r7,r8,r9,s1,e8,e9,h⟩ := bq3 h
       refine rsd hc (rx [[0],[0],[0],[0,2],[0,2,3],[0,2,3,4],[0,1,2,3,4,5],[0],[8],[0],[10]]) (nN 4 [some (.call (oI r7) [] 23),mK 24,some (.call (.osl (List.map K14 r9)) [.tup []] 25),oN,some (.call (K25 e8) [.tup []] 1),nW 26,oN]) [15,107] [(16,.ra 26 0)] [(1,K1v s0),(2,K1y t2),(3,K24 a3),(4,.box [.nils,.nils,I 0,.nils]),(21,K24 q0),(22,rI q4),(26,K24 e8)] (cq (Ket _ _ r8) K5f (ad (Q77.args (A1 := [sL ctx1,.sl (Q02 (List.map K10 [r7]))]) (A2 := [sL ctx1,.sl (List.map K14 [r7])]) (by simp only [List.map_nil,K19]) (Kez _ _ s1)) K5l (Q77.args (A1 := [K1w s0,.sl (Q02 (List.map K14 r9)),K1z t2,I 2]) (A2 := [K1w s0,sL r9,K1z t2,I 2]) (by simp only [List.map_nil,K18]) (spec_l3Of_ih _ _ e9)) K5p tv)) (sN (K9h hc 3 [] [(120,.bool (e8.ffault != 0))] (ic h (fun g0 h => ?_) fun g0 h => ?_)))
       ·obtain rfl := os h
        exact rs0 hc 2 [(8,.ra 4 0)] [(4,K24 e8)] (rt (re [false]))
       refine sk (sN ?_)
       obtain ⟨s2,s3,h⟩ := Qe5 h
       refine K9g hc none (nN 4 [oc (.bool s2),oN]) [120] [(127,.bool (!s2))] (cq (Ke4 _ _ s3) K4x tv) ?_
       rcases is h with ⟨i1,h⟩ | ⟨i1,h⟩
       ·refine cF (!s2) (nF i1) (sk ?_)
        obtain ⟨s4,s5,s6,s7,h⟩ := bq2 h
        refine K9g hc Kft [oN,oN,oN,eL (I s4),oN,oN,oc (.bool s6),oN] [127] [(15,.bool s6)] (ai (ix s5) (cq (Kbp _ _ s7) K46 tv)) ?_
        obtain ⟨s8,s9,t0,t1,h⟩ := bq2 h
        obtain rfl := os h
        exact rj hc (rx [[0],[0],[0],[0,2],[0,2,3],[5],[6]]) (nN 4 [nQ ⟨[(140,sI s8)],[],[]⟩,some (.call (oI t0) [] 27),oN]) (ad (Qee (d := 140) I s9) (Qed (enc := I) (sz := 1) Qeo s9) (Q77.args (A1 := [K1w s0,.sl (Q02 (List.map I q4)),sI s8]) (A2 := [K1w s0,sI q4,sI s8]) (by simp only [List.map_nil,Qex]) (Kfo _ _ t1)) K63 (ai (Or.inr (Qf5 Qf1 t0) : ([22] : List Nat) = [] ∨ noSh (oI t0) = true) tv))
       refine cT (!s2) (nT i1) ?_
       obtain ⟨t3,t4,h⟩ := Qe5 h
       refine rs hc none [some (.call (K2j t3) [] 28),oN] [(8,.ra 4 0)] [(4,.box [.rs 28,.rs 29,I t3.ffault,.rs 30]),(28,rI t3.fty),(29,rI t3.fneeds),(30,rI t3.fpath)] (cq (Kf7 _ _ t4) K5r tv) (vz 28 (Qex t3.fty) [(8,.ra 4 0)] [(4,.box [sI t3.fty,.rs 29,I t3.ffault,.rs 30]),(29,rI t3.fneeds),(30,rI t3.fpath)] (vz 29 (Qex t3.fneeds) [(8,.ra 4 0)] [(4,.box [sI t3.fty,sI t3.fneeds,I t3.ffault,.rs 30]),(30,rI t3.fpath)] (vz 30 (Qex t3.fpath) [(8,.ra 4 0)] [(4,K24 t3)] ?_)))
       obtain rfl := os h
       exact rt (re [false])
      obtain rfl := os h
      exact sk (iv [(27,22)])
     rcases fl with ⟨t5,t6⟩ | r
     ·refine wf hF ?_
      obtain rfl := os h
      exact iv [(22,27)]
     refine Wp.mono hF ?_
     rintro _ _ ⟨rfl,hfin⟩
     obtain rfl := os h
     exact ⟨rfl,hfin⟩
    rcases fl with ⟨t7,t8⟩ | r
    ·refine wf hF ?_
     obtain rfl := os h
     exact im
    refine Wp.mono hF ?_
    rintro _ _ ⟨rfl,hfin⟩
    obtain rfl := os h
    exact ⟨rfl,hfin⟩
   rcases fl with ⟨t9,u0,u1⟩ | r
   ·refine wf hF (sN (sN ?_))
    obtain ⟨u2,u3,h⟩ := Qe5 h
    refine wi [13,15] [(153,.bool u2)] ?_ ?_
    ·replace h := u3
     rcases is h with ⟨u4,h⟩ | ⟨u4,h⟩
     ·obtain ⟨u5,u6,u7,u8,h⟩ := bq2 h
      obtain rfl := os h
      exact rj hc Kfu (nN 6 [eL (I u5),oN,oN,oc (.bool u7),oN,oF]) (ar 4 (nF u4) (ai (ix u6) (ar 3 (nF u4) (cq (Kbp _ _ u8) K46 (ar 2 (nF u4) tv)))))
     obtain rfl := os h
     exact rj hc Kfu ([oN,oN,oN]++n_ 8 [oT]) (ar 8 (neF (nT u4)) (ai (nT u4) tv))
    clear u3
    refine ic h (fun u9 h => ?_) fun u9 h => ?_
    ·obtain ⟨v0,v1,h⟩ := Qe5 h
     refine rs hc none [some (.call (K2j v0) [] 31),oN] [(8,.ra 4 0)] [(4,.box [.rs 31,.rs 32,I v0.ffault,.rs 33]),(31,rI v0.fty),(32,rI v0.fneeds),(33,rI v0.fpath)] (cq (Kf7 _ _ v1) K5r tv) (vz 31 (Qex v0.fty) [(8,.ra 4 0)] [(4,.box [sI v0.fty,.rs 32,I v0.ffault,.rs 33]),(32,rI v0.fneeds),(33,rI v0.fpath)] (vz 32 (Qex v0.fneeds) [(8,.ra 4 0)] [(4,.box [sI v0.fty,sI v0.fneeds,I v0.ffault,.rs 33]),(33,rI v0.fpath)] (vz 33 (Qex v0.fpath) [(8,.ra 4 0)] [(4,K24 v0)] ?_)))
     obtain rfl := os h
     exact rt (rq [false])
    refine sk ?_
    obtain ⟨v2,v3,v4,v5,v6,v7,h⟩ := bq3 h
    refine rs hc (rx [[0],[1],[0],[0],[0],[0,4],[0,4,5],[0],[0,7],[0],[0,9],[0,3,4,5,6,7,8,9,10],[0],[0,2,3,4,5,6,7,8,9,10,11,12],[14],[15]]) (nN 5 ([nQ ⟨[(160,I (ctx1.length : Int))],[],[]⟩,some (.call (oI v2) [] 34)]++nN 4 [some (.call (oI v4) [] 35),oN,some (.call (oI v6) [] 36),oN,oN])) [(8,.ra 4 0)] [(4,.box [sI q0.fty,.rs 36,I 0,.nils]),(36,rI v6)] (ai (Qeb (d := 160) K14 ctx1) (cq (Kf4 _ _ v3) K5n (ad (Q77.args (A1 := [K1w s0,.sl (Q02 (List.map I v2)),I t2.fN,sI a3.fneeds]) (A2 := [K1w s0,sI v2,I t2.fN,sI a3.fneeds]) (by simp only [List.map_nil,Qex]) (Kfe _ _ v5)) K5v (Or.inr (Qf5 Qf1 v4) : ([34] : List Nat) = [] ∨ noSh (oI v4) = true) (Q77.args (A1 := [K1w s0,.sl (Q02 (List.map I v4)),I 1,.sl (Q02 (List.map I u0))]) (A2 := [K1w s0,sI v4,I 1,sI u0]) (by simp only [List.map_nil,Qex]) (Kfe _ _ v7)) (ab K5v (Or.inr (Qf5 Qf1 v6) : ([35,22] : List Nat) = [] ∨ noSh (oI v6) = true) tv)))) (vz 36 (Qex v6) [(8,.ra 4 0)] [(4,.box [sI q0.fty,sI v6,I 0,.nils])] ?_)
    obtain rfl := os h
    exact rt (rq [false])
   refine Wp.mono hF ?_
   rintro _ _ ⟨rfl,hfin⟩
   obtain rfl := os h
   exact ⟨.inl rfl,hfin⟩
  refine cT (!o7) (nT o9) ?_
  obtain ⟨v8,v9,h⟩ := Qe5 h
  refine rs hc none [some (.call (K2j v8) [] 37),oN] [(8,.ra 4 0)] [(4,.box [.rs 37,.rs 38,I v8.ffault,.rs 39]),(37,rI v8.fty),(38,rI v8.fneeds),(39,rI v8.fpath)] (cq (Kf7 _ _ v9) K5r tv) (vz 37 (Qex v8.fty) [(8,.ra 4 0)] [(4,.box [sI v8.fty,.rs 38,I v8.ffault,.rs 39]),(38,rI v8.fneeds),(39,rI v8.fpath)] (vz 38 (Qex v8.fneeds) [(8,.ra 4 0)] [(4,.box [sI v8.fty,sI v8.fneeds,I v8.ffault,.rs 39]),(39,rI v8.fpath)] (vz 39 (Qex v8.fpath) [(8,.ra 4 0)] [(4,K24 v8)] ?_)))
  obtain rfl := os h
  exact rt (rq [false])
 ·rintro spec_l3Tell_f spec_l3Tell_ih ⟨s0,ctx1,t2,k3⟩ r h
  refine b0 Tryz.f234 K5o 28 [(0,K1w s0),(1,sL ctx1),(2,K1z t2),(3,I k3)] fun c hc => (rsd hc none [nW 1,nW 2,nW 3] [0,2] [(4,.ra 1 0),(6,.ra 2 0),(8,.ra 3 0)] [(1,K1v s0),(2,K1y t2),(3,.box [.nils,.nils,I 0,.nils])] tv ?_)
  obtain ⟨w0,w1,w2,w3,h⟩ := bq2 h
  refine rsd hc (rx [[0],[0],[0],[0,2],[0],[0,2,3,4],[0,2,3,4,5],[7],[0],[9]]) (nN 5 [eL (K1z w0),oN,oc (K25 w2),nW 4,oN]) [4,6,1] [(9,.ra 4 0)] [(3,.box [.nils,.nils,I 0,.nils]),(4,K24 w2)] (ai (Qe9 w1 (K0o w0)) (cq (spec_l3Tell_ih _ _ w3) K61 tv)) (sN (K9h hc 3 [] [(20,.bool (w2.ffault != 0))] ?_))
  obtain ⟨w4,w5,h⟩ := Qe5 h
  refine Wp.into (x := .normal) (mkS [(8,.ra 3 0),(9,.ra 4 0)] [(3,.box [.nils,.nils,I 0,.nils]),(4,.box [sI w2.fty,sI w2.fneeds,I w2.ffault,sI w4])]) ?_ ?_
  ·replace h := w5
   refine ic h (fun a0 h => ?_) fun a0 h => ?_
   ·obtain ⟨_,w6,h⟩ := Qe5 h
    obtain rfl := os h
    exact rgd hc none [oN,mK 5,oN,oN,some (.eqv (.mk 6 true) ⟨[(25,.rs 6)],[(6,some (rI ([k3] ++ w2.fpath))),(5,none)],[6]⟩),oN,oN] [20,3] [] [(3,.box [.nils,.nils,I 0,.nils]),(4,.box [sI w2.fty,sI w2.fneeds,I w2.ffault,.rs 6]),(6,rI ([k3] ++ w2.fpath))] (ab (congrArg (fun z => (⟨[(25,.rs 6)],[(6,some (.arr z)),(5,none)],[6]⟩ : Wr)) ((List.map_append).symm : (List.map I [k3]) ++ (List.map I w2.fpath) = List.map I ([k3] ++ w2.fpath))) (Qej (enc1 := I) (enc2 := I) (e1 := [k3]) (e2 := w2.fpath) (sz := 1) Qes Qes w6) tv) (Qdr.view (fun a w hv => SRx.renL [] (SRx.frzC 6 (xs := List.map I ([k3] ++ w2.fpath)) (xs' := List.map I ([k3] ++ w2.fpath)) hv (by kernel_rfl) (Qex _)) (by kernel_rfl) (by kernel_rfl) (by kernel_rfl)))
   obtain rfl := os h
   exact sk (iv [])
  clear w5
  obtain rfl := os h
  exact K9f hc 2 [9] [] [(3,.box [sI w2.fty,sI w2.fneeds,I w2.ffault,sI w4])] (rt (rq [false]))
 ·rintro spec_l3Of_f spec_l3Of_ih ⟨s0,ctx1,t2,a3⟩ r h
  refine b0 Tryz.f236 K5s 65 [(0,K1w s0),(1,sL ctx1),(2,K1z t2),(3,K25 a3)] fun c hc => (rsd hc none [nW 1,nW 2,nW 3,nW 4] [0,2,3] [(4,.ra 1 0),(6,.ra 2 0),(7,.ra 3 0),(8,.ra 4 0)] [(1,K1v s0),(2,K1y t2),(3,K24 a3),(4,.box [.nils,.nils,I 0,.nils])] tv ?_)
  obtain ⟨w7,w8,h⟩ := Qe5 h
  refine rsd hc none [oN,oN,oN,oc (K25 w7),nW 5,oN] [] [(9,.ra 5 0)] [(1,K1v s0),(2,K1y t2),(3,K24 a3),(4,.box [.nils,.nils,I 0,.nils]),(5,K24 w7)] (cq (spec_l3Of_ih _ _ w8) K5p tv) (sN (K9h hc 3 [] [(17,.bool (w7.ffault != 0))] (ic h (fun a0 h => ?_) fun a0 h => ?_)))
  ·obtain rfl := os h
   exact rs0 hc 2 [(8,.ra 4 0)] [(4,K24 w7)] (rt (rq [false]))
  refine sk (sN (K9h hc 3 [17] [(21,.bool (t2.fOp == 2))] (ic h (fun b1 h => ?_) fun b1 h => ?_)))
  ·refine sN ?_
   obtain ⟨w9,x0,h⟩ := Qe5 h
   refine rsd hc none [oN,oN,eL (I w9),oN,oN] [21,6,1] [(26,.bool (w9 != 0))] [(1,K1v s0),(3,K24 a3),(4,.box [.nils,.nils,I 0,.nils]),(5,K24 w7)] (ai (ix x0) tv) (ic h (fun b6 h => ?_) fun b6 h => ?_)
   ·obtain ⟨x1,x2,h⟩ := Qe5 h
    refine rs hc none [some (.call (K2j x1) [] 6),oN] [(8,.ra 4 0)] [(4,.box [.rs 6,.rs 7,I x1.ffault,.rs 8]),(6,rI x1.fty),(7,rI x1.fneeds),(8,rI x1.fpath)] (cq (Kf7 _ _ x2) K5r tv) (vz 6 (Qex x1.fty) [(8,.ra 4 0)] [(4,.box [sI x1.fty,.rs 7,I x1.ffault,.rs 8]),(7,rI x1.fneeds),(8,rI x1.fpath)] (vz 7 (Qex x1.fneeds) [(8,.ra 4 0)] [(4,.box [sI x1.fty,sI x1.fneeds,I x1.ffault,.rs 8]),(8,rI x1.fpath)] (vz 8 (Qex x1.fpath) [(8,.ra 4 0)] [(4,K24 x1)] ?_)))
    obtain rfl := os h
    exact rt (rq [false])
   refine sk ?_
   obtain ⟨x3,x4,h⟩ := Qe5 h
   refine rs hc (rx [[0],[1],[0],[0],[0,3],[0],[0,5],[0,2,3,4,5,6],[8],[9]]) (nN 7 [some (.call (oI x3) [] 9),oN,oN]) [(8,.ra 4 0)] [(4,.box [sI w7.fty,.rs 9,I 0,.nils]),(9,rI x3)] (cq (Kfe _ _ x4) K5v tv) (vz 9 (Qex x3) [(8,.ra 4 0)] [(4,.box [sI w7.fty,sI x3,I 0,.nils])] ?_)
   obtain rfl := os h
   exact rt (rq [false])
  refine sk ?_
  obtain ⟨o7,o8,h⟩ := Qe5 h
  refine rsd hc none [oN,oN,oN,oc (K25 o7),nW 10,oN] [21,6,1] [(10,.ra 10 0)] [(1,K1v s0),(3,K24 a3),(4,.box [.nils,.nils,I 0,.nils]),(5,K24 w7),(10,K24 o7)] (cq (spec_l3Of_ih _ _ o8) K5p tv) (sN (K9e hc 3 [(4,.ra 1 0),(7,.ra 3 0),(8,.ra 4 0),(9,.ra 5 0),(10,.ra 10 0),(43,.bool (o7.ffault != 0))] (ic h (fun x5 h => ?_) fun x5 h => ?_)))
  ·obtain rfl := os h
   exact rs0 hc 2 [(8,.ra 4 0)] [(4,K24 o7)] (rt (rq [false]))
  refine sk (sN ?_)
  obtain ⟨x6,x7,h⟩ := Qe5 h
  refine K9g hc none (nN 4 [oc (.bool x6),oN]) [43] [(50,.bool (!x6))] (cq (Ke4 _ _ x7) K4x tv) ?_
  rcases is h with ⟨x8,h⟩ | ⟨x8,h⟩
  ·refine cF (!x6) (nF x8) (sk ?_)
   obtain ⟨x9,y0,y1,y2,h⟩ := bq2 h
   refine rs hc (rx [[0],[1],[0],[0],[0,3],[0],[0],[0,6],[0],[0,8],[0,5,6,7,8,9],[0,2,3,4,5,6,7,8,9,10],[12],[13]]) (nN 10 [some (.call (oI x9) [] 11),some (.call (oI y1) [] 12),oN,oN]) [(8,.ra 4 0)] [(4,.box [sI w7.fty,.rs 12,I 0,.nils]),(12,rI y1)] (cq (Kfo _ _ y0) K63 (ac (Q77.args (A1 := [K1w s0,sI a3.fneeds,I 1,.sl (Q02 (List.map I x9))]) (A2 := [K1w s0,sI a3.fneeds,I 1,sI x9]) (by simp only [List.map_nil,Qex]) (Kfe _ _ y2)) K5v (Or.inr (Qf5 Qf1 y1) : ([11] : List Nat) = [] ∨ noSh (oI y1) = true) tv)) (vz 12 (Qex y1) [(8,.ra 4 0)] [(4,.box [sI w7.fty,sI y1,I 0,.nils])] ?_)
   obtain rfl := os h
   exact rt (rq [false])
  refine cT (!x6) (nT x8) ?_
  obtain ⟨y3,y4,h⟩ := Qe5 h
  refine rs hc none [some (.call (K2j y3) [] 13),oN] [(8,.ra 4 0)] [(4,.box [.rs 13,.rs 14,I y3.ffault,.rs 15]),(13,rI y3.fty),(14,rI y3.fneeds),(15,rI y3.fpath)] (cq (Kf7 _ _ y4) K5r tv) (vz 13 (Qex y3.fty) [(8,.ra 4 0)] [(4,.box [sI y3.fty,.rs 14,I y3.ffault,.rs 15]),(14,rI y3.fneeds),(15,rI y3.fpath)] (vz 14 (Qex y3.fneeds) [(8,.ra 4 0)] [(4,.box [sI y3.fty,sI y3.fneeds,I y3.ffault,.rs 15]),(15,rI y3.fpath)] (vz 15 (Qex y3.fpath) [(8,.ra 4 0)] [(4,K24 y3)] ?_)))
  obtain rfl := os h
  exact rt (rq [false])
theorem Kg4 : ∀ p r,Kfv p = some r → Kfz p r := Kg3.1
theorem Kg5 : ∀ p r,Kfw p = some r → Kg0 p r := Kg3.2.1
theorem Kg6 : ∀ p r,Kfx p = some r → Kg1 p r := Kg3.2.2.1
theorem Kg7 : ∀ p r,Kfy p = some r → Kg2 p r := Kg3.2.2.2
def Kg8 (p : K00 × LL × K01 × Int) : Option (Int) :=
 match p with
 | (s0,ctx1,t2,i3) =>
  (Kfv (s0,ctx1,t2)) >>= fun a0 =>
  if (a0.ffault != 0) = true then
  some 0
  else
  (idx a0.fneeds i3) >>= fun a1 =>
  some a1
def Kg9 (p : K00 × LL × K01 × Int) (r : Int) : Prop :=
 match p with
 | (s0,ctx1,t2,i3) => Q77 Tryz.prog 141 [K1w s0,sL ctx1,K1z t2,I i3] (I r) []
theorem Kga : ∀ p r,Kg8 p = some r → Kg9 p r := by
 rintro ⟨s0,ctx1,t2,i3⟩ r h
 unfold Kg8 at h
 refine b0 Tryz.f141 K64 22 [(0,K1w s0),(1,sL ctx1),(2,K1z t2),(3,I i3)] fun c hc => (rsd hc none [nW 1,nW 2,oN] [0,2] [(4,.ra 1 0),(6,.ra 2 0)] [(1,K1v s0),(2,K1y t2)] tv ?_)
 obtain ⟨a0,a1,h⟩ := Qe5 h
 refine rsd hc none [oN,oN,oN,oc (K25 a0),nW 3,oN] [4,6,1] [(9,.ra 3 0)] [(3,K24 a0)] (cq (Kg4 _ _ a1) K61 tv) (sN (K9h hc 3 [] [(16,.bool (a0.ffault != 0))] (ic h (fun a2 h => ?_) fun a2 h => ?_)))
 ·obtain rfl := os h
  exact rs0 hc 1 [(8,I 0)] [] (rt (rq [true]))
 refine sk ?_
 obtain ⟨a3,a4,h⟩ := Qe5 h
 obtain rfl := os h
 exact rs hc none [oN,oN,oN,eL (I a3),oN,oN] [(8,I a3)] [] (ai (ix a4) tv) (rt (rq [true]))
def Kgb (c : Ctx) (c0 : K02) (s1 : K00) (g2 : Int) : ((List Int) × Int × Int) ⊕ ((Int × K02)) → Exit → Q0a → Prop
 | .inl (a0,a1,a2) => Qdr c (.exit 0) (mkS [(2,I g2)] [(1000,.box [sM U8 a0,I a1,I a2])])
 | .inr r => Qe3 TIx Tryz.f140 [K23 c0,K1w s1,I g2] (I r.1,[K23 r.2,.undef,.undef])
def Kgc (p : K02 × K00 × Int × (List Int) × Int × Int × Int) : Option (((List Int) × Int × Int) ⊕ ((Int × K02))) :=
 match p with
 | (c0,s1,g2,a0,a1,a2,a3) =>
  ((
  if (decide (a3 < 3)) = true then
  (Ka5 ((K02.mk a0 a1 a2),3)) >>= fun (a4,a5) =>
  some ((a5.fb,a5.fi,a5.fh,a4))
  else
  some ((a0,a1,a2,false))
  ) : Option ((List Int) × Int × Int × Bool)) >>= fun (a6,a7,a8,a9) =>
  if a9 = true then
  (Ka2 ((K02.mk a6 a7 a8),s1.fSize)) >>= fun (b1,b2) =>
  (Kbn (s1,g2,b1)) >>= fun b3 =>
  if b3 = true then
  some (.inr (b1,b2))
  else
  Kgc (c0,s1,g2,b2.fb,b2.fi,b2.fh,(wr (a3 + 1)))
  else
  some (.inl (a6,a7,a8))
 partial_fixpoint
def Kgd (p : K02 × K00 × Int × (List Int) × Int × Int × Int) (fl : ((List Int) × Int × Int) ⊕ ((Int × K02))) : Prop :=
 match p with
 | (c0,s1,g2,a0,a1,a2,a3) => ∀ c : Ctx,c.nt = 36 → WpL Tryz.prog c (cl (cl (cr (cl (cr (cr K66)))))) (Kgb c c0 s1 g2 fl) (mkS [(0,.ra 1000 0),(2,I g2),(4,.ra 1 0),(7,I a3)] [(1,K1v s1),(1000,.box [sM U8 a0,I a1,I a2])])
theorem Kge : ∀ p r,Kgc p = some r → Kgd p r := by
 refine Kgc.partial_correctness Kgd ?_
 rintro spec_dAbove_l0_f spec_dAbove_l0_ih ⟨c0,s1,g2,a0,a1,a2,a3⟩ r h
 intro c hc
 refine WpL.step (sN (sN ?_))
 obtain ⟨⟨a4,a5,a6,a7⟩,a8,h⟩ := Qe5 h
 refine Wp.into (x := .normal) (mkS [(0,.ra 1000 0),(2,I g2),(4,.ra 1 0),(7,I a3),(23,.bool a7)] [(1,K1v s1),(1000,.box [sM U8 a4,I a5,I a6])]) ?_ ?_
 ·replace h := a8
  rcases is h with ⟨a9,h⟩ | ⟨a9,h⟩
  ·obtain ⟨⟨b1,b2⟩,b3,h⟩ := Qe5 h
   obtain ⟨rfl,hq0⟩ := Prod.mk.inj (os h)
   obtain ⟨rfl,hq1⟩ := Prod.mk.inj (hq0)
   obtain ⟨rfl,rfl⟩ := Prod.mk.inj (hq1)
   exact rj hc none (nN 4 [some (.call (.bool b1) [K23 b2,.undef] 1),oT]) (ar 2 a9 (ac (Ka7 _ _ b3) K3n a9 tv))
  obtain ⟨rfl,hq0⟩ := Prod.mk.inj (os h)
  obtain ⟨rfl,hq1⟩ := Prod.mk.inj (hq0)
  obtain ⟨rfl,rfl⟩ := Prod.mk.inj (hq1)
  exact rj hc none [oN,oN,oN,o_,o_,oF] (ar 2 (neT a9) (ai a9 tv))
 clear a8
 refine ic h (fun b4 h => ?_) fun b4 h => ?_
 ·refine sk (sN (bk 1 ?_))
  obtain ⟨⟨b5,b6⟩,b7,h⟩ := Qe5 h
  refine rsd hc none [oN,oN,oN,some (.call (I b5) [K23 b6,.undef] 1),oN] [23] [(8,I b5)] [(1,K1v s1),(1000,K21 b6)] (ab (Ka4 _ _ b7) K3m tv) ?_
  obtain ⟨b8,b9,h⟩ := Qe5 h
  refine K9g hc none [oN,oN,oN,oc (.bool b8)] [] [(33,.bool b8)] (cq (Kbp _ _ b9) K46 tv) (ic h (fun c1 h => ?_) fun c1 h => ?_)
  ·obtain rfl := os h
   exact rs0 hc 2 [(6,I b5)] [(1000,K21 b6)] (rt (rp [true]))
  exact sk (ri0 hc 3 (Qdn (spec_dAbove_l0_ih _ _ h c hc)))
 obtain rfl := os h
 exact xt 0 (Qdh (Qdo (iv [])))
def Kgf (p : K02 × K00 × Int) : Option (Int × K02) :=
 match p with
 | (c0,s1,g2) =>
  ((
  if (decide (g2 < 0)) = true then
   some (true)
  else
   some ((decide (g2 ≥ s1.fSize)))
  ) : Option (Bool)) >>= fun a0 =>
  if a0 = true then
  some (g2,c0)
  else
  (Kgc (c0,s1,g2,c0.fb,c0.fi,c0.fh,0)) >>= fun fl => match fl with
  | .inl (a1,a2,a3) =>
   some (g2,(K02.mk a1 a2 a3))
  | .inr r =>
   some r
def Kgg (p : K02 × K00 × Int) (r : Int × K02) : Prop :=
 match p with
 | (c0,s1,g2) => Q77 Tryz.prog 140 [K23 c0,K1w s1,I g2] (I r.1) [K23 r.2,.undef,.undef]
theorem Kgh : ∀ p r,Kgf p = some r → Kgg p r := by
 rintro ⟨c0,s1,g2⟩ r h
 unfold Kgf at h
 refine Q77.bodyO K3d (fn := Tryz.f140) (code := K66) (by kernel_rfl) (by kernel_rfl) (by kernel_rfl) (nt := 36) (by kernel_rfl) (by kernel_rfl) (T := [(0,.ra 1000 0),(1,K1w s1),(2,I g2)]) (O := [(1000,K21 c0)]) (by kernel_rfl) (by kernel_rfl) (fun c hc => ?_)
 refine rs hc none [nW 1,oN] [(0,.ra 1000 0),(2,I g2),(4,.ra 1 0)] [(1,K1v s1),(1000,K21 c0)] tv (sN (sN ?_))
 obtain ⟨a0,a1,h⟩ := Qe5 h
 refine wi [] [(16,.bool a0)] ?_ ?_
 ·replace h := a1
  rcases is h with ⟨a2,h⟩ | ⟨a2,h⟩
  ·obtain rfl := os h
   exact rj hc none ([oN,oN,oN]++n_ 4 [oT]) (ar 4 (neF a2) (ai a2 tv))
  obtain rfl := os h
  exact rj hc none (nN 7 [oF]) (ar 5 a2 tv)
 clear a1
 refine ic h (fun a3 h => ?_) fun a3 h => ?_
 ·obtain rfl := os h
  exact rs0 hc 2 [(6,I g2)] [(1000,K21 c0)] (rt (rr [true]))
 refine sk (sN (K9e hc 1 [(0,.ra 1000 0),(2,I g2),(4,.ra 1 0),(7,I 0)] (bk 0 ?_)))
 obtain ⟨fl,a4,h⟩ := Qe5 h
 have hL := Kge _ _ a4 c hc
 refine lp ?_
 rcases fl with ⟨a5,a6,a7⟩ | r
 ·refine wl hL ?_
  obtain rfl := os h
  exact Qdj (K9e hc 2 [(6,I g2)] (rt (rr [true])))
 refine WpL.mono hL ?_
 rintro _ _ ⟨rfl,hfin⟩
 obtain rfl := os h
 exact ⟨.inl rfl,hfin⟩
def Kgi (p : Int × Int) : Option (Int) :=
 match p with
 | (op0,kid1) =>
  ((
  if (op0 == 5) = true then
  some ((kid1 == 1))
  else
  some (false)
  ) : Option (Bool)) >>= fun a0 =>
  if a0 = true then
  some 2
  else
  ((
  if (op0 == 8) = true then
  if (decide (kid1 > 0)) = true then
  some (true)
  else
  if (op0 == 9) = true then
  some (true)
  else
  if (op0 == 12) = true then
  some ((kid1 == 1))
  else
  some (false)
  else
  if (op0 == 9) = true then
  some (true)
  else
  if (op0 == 12) = true then
  some ((kid1 == 1))
  else
  some (false)
  ) : Option (Bool)) >>= fun a1 =>
  if a1 = true then
  some 1
  else
  some 0
def Kgj (p : Int × Int) (r : Int) : Prop :=
 match p with
 | (op0,kid1) => Q77 Tryz.prog 191 [I op0,I kid1] (I r) []
theorem Kgk : ∀ p r,Kgi p = some r → Kgj p r := by
 rintro ⟨op0,kid1⟩ r h
 unfold Kgi at h
 refine b0 Tryz.f191 K68 31 [(0,I op0),(1,I kid1)] fun c hc => (K9f hc 1 [] [] [] (sN (bk 0 (sN ?_))))
 obtain ⟨a0,a1,h⟩ := Qe5 h
 refine wi [] [(5,.bool a0)] ?_ ?_
 ·replace h := a1
  rcases is h with ⟨a2,h⟩ | ⟨a2,h⟩
  ·obtain rfl := os h
   exact rj hc none (nN 5 [oT,oN]) (ar 3 a2 tv)
  obtain rfl := os h
  exact rj hc none [oN,oN,oN,o_,o_,oF,oN] (ar 2 (neT a2) (ai a2 tv))
 clear a1
 refine ic h (fun a3 h => ?_) fun a3 h => ?_
 ·obtain rfl := os h
  exact rs0 hc 1 [(4,I 2)] [] (rt (rq [true]))
 refine sN ?_
 obtain ⟨a4,a5,h⟩ := Qe5 h
 refine Wp.into (x := .normal) (mkS [(12,.bool a4)] []) ?_ ?_
 ·replace h := a5
  rcases is h with ⟨a6,h⟩ | ⟨a6,h⟩
  ·rcases is h with ⟨a7,h⟩ | ⟨a7,h⟩
   ·obtain rfl := os h
    exact rj hc none (nN 5 ([oT,oN,o_,o_,oT,oN]++n_ 6 [oT,oN])) (ar 3 a6 (ar 2 (neF a7) (ai a7 (ar 4 nf (ai tt tv)))))
   rcases is h with ⟨a8,h⟩ | ⟨a8,h⟩
   ·obtain rfl := os h
    exact rj hc none (nN 5 ([oT,oN,oN,oN,oF,oN]++n_ 6 [oT,oN])) (ar 3 a6 (ar 3 a7 (ar 4 (neF a8) (ai a8 tv))))
   rcases is h with ⟨a9,h⟩ | ⟨a9,h⟩
   ·obtain rfl := os h
    exact rj hc none (nN 5 ([oT,oN,oN,oN,oF]++nN 6 [oT,oF,oN])) (ar 3 a6 (ar 3 a7 (ar 3 a8 (ar 2 a9 (ac a8 a9 a8 tv)))))
   obtain rfl := os h
   exact rj hc none (nN 5 ([oT,oN,oN,oN,oF]++nN 4 [o_,o_,oF,oF,oN])) (ar 3 a6 (ar 3 a7 (ar 3 a8 (ar 2 (neT a9) (ac a8 a9 a8 tv)))))
  rcases is h with ⟨a7,h⟩ | ⟨a7,h⟩
  ·obtain rfl := os h
   exact rj hc none ([oN,oN,oN,o_,o_,oF,oN,oN,oN,oF,oN]++n_ 6 [oT,oN]) (ar 2 (neT a6) (ai a6 (ar 3 fF (ar 4 (neF a7) (ai a7 tv)))))
  rcases is h with ⟨a8,h⟩ | ⟨a8,h⟩
  ·obtain rfl := os h
   exact rj hc none ([oN,oN,oN,o_,o_,oF,oN,oN,oN,oF]++nN 6 [oT,oF,oN]) (ar 2 (neT a6) (ai a6 (ar 3 fF (ar 3 a7 (ar 2 a8 (ac a7 a8 a7 tv))))))
  obtain rfl := os h
  exact rj hc none ([oN,oN,oN,o_,o_,oF,oN,oN,oN,oF]++nN 4 [o_,o_,oF,oF,oN]) (ar 2 (neT a6) (ai a6 (ar 3 fF (ar 3 a7 (ar 2 (neT a8) (ac a7 a8 a7 tv))))))
 clear a5
 refine ic h (fun b1 h => ?_) fun b1 h => ?_
 ·obtain rfl := os h
  exact rs0 hc 1 [(4,I 1)] [] (rt (rq [true]))
 obtain rfl := os h
 exact sk (rs0 hc 1 [(4,I 0)] [] (rt (rq [true])))
def Kgl (c : Ctx) (t0 : K01) (a0 : List Int) (a1 : Int) : (List K01) → Exit → Q0a → Prop
 | a2 => Qdr c (.exit 0) (mkS [(6,.ra 2 0),(7,.ra 4 0)] [(2,zT),(3,rI a0),(4,.box [I t0.fOp,I a1,.rs 3,.rs 9]),(9,rM K0k a2)])
mutual
def Kgm (p : K01 × Int × Int) : Option (K01) :=
 match p with
 | (t0,by1,from2) =>
  (Keo t0.fType) >>= fun a0 =>
  ((
  if (t0.fOp == 0) = true then
  some ((decide (t0.fN ≥ from2)))
  else
  some (false)
  ) : Option (Bool)) >>= fun a1 =>
  ((
  if a1 = true then
  some ((wr (t0.fN + by1)))
  else
  some (t0.fN)
  ) : Option (Int)) >>= fun a2 =>
  (Kgn (t0,by1,from2,a0,a2,[],0)) >>= fun a3 =>
  some (K01.mk t0.fOp a2 a0 a3)
 partial_fixpoint
def Kgn (p : K01 × Int × Int × (List Int) × Int × (List K01) × Int) : Option ((List K01)) :=
 match p with
 | (t0,by1,from2,a0,a1,a2,a3) =>
  if (decide (a3 < (t0.fKids.length : Int))) = true then
  (idx t0.fKids a3) >>= fun a4 =>
  (Kgi (t0.fOp,a3)) >>= fun a5 =>
  (Kgm (a4,by1,(wr (from2 + a5)))) >>= fun a6 =>
  (Qei (a2.length + [a6].length) 64) >>= fun _ =>
  Kgn (t0,by1,from2,a0,a1,(a2 ++ [a6]),(wr (a3 + 1)))
  else
  some (a2)
 partial_fixpoint
end
def Kgo (p : K01 × Int × Int) (r : K01) : Prop :=
 match p with
 | (t0,by1,from2) => Q77 Tryz.prog 132 [K1z t0,I by1,I from2] (K2f r) []
def Kgp (p : K01 × Int × Int × (List Int) × Int × (List K01) × Int) (fl : (List K01)) : Prop :=
 match p with
 | (t0,by1,from2,a0,a1,a2,a3) => ∀ c : Ctx,c.nt = 57 → WpL Tryz.prog c (cl (cl (cr (cl (cr (cr (cr K6a))))))) (Kgl c t0 a0 a1 fl) (mkS [(1,I by1),(2,I from2),(3,.ra 1 0),(6,.ra 2 0),(7,.ra 4 0),(8,I a3)] [(1,K1y t0),(2,zT),(3,rI a0),(4,.box [I t0.fOp,I a1,.rs 3,.rs 9]),(9,rM K0k a2)])
theorem Kgq : (∀ p r,Kgm p = some r → Kgo p r) ∧ (∀ p r,Kgn p = some r → Kgp p r) := by
 refine Kgm.mutual_partial_correctness Kgo Kgp ?_ ?_
 ·rintro spec_l2Shift_l0_f spec_l2Shift_l0_ih ⟨t0,by1,from2⟩ r h
  refine b0 Tryz.f132 K6a 57 [(0,K1z t0),(1,I by1),(2,I from2)] fun c hc => (rsd hc none [nW 1,nW 2] [0] [(3,.ra 1 0),(6,.ra 2 0)] [(1,K1y t0),(2,zT)] tv ?_)
  obtain ⟨a0,a1,h⟩ := Qe5 h
  refine rsd hc (rx [[0],[1],[0],[0,2],[0],[0,4],[0,4,5],[7],[0],[9]]) (nN 6 [some (.call (oI a0) [] 3),oN,nW 4,oN]) [] [(7,.ra 4 0)] [(1,K1y t0),(2,zT),(3,rI a0),(4,.box [I t0.fOp,I t0.fN,.rs 3,.nils])] (cq (Keq _ _ a1) K5d tv) (sN (sN ?_))
  obtain ⟨a2,a3,h⟩ := Qe5 h
  refine wi [] [(25,.bool a2)] ?_ ?_
  ·replace h := a3
   rcases is h with ⟨a4,h⟩ | ⟨a4,h⟩
   ·obtain rfl := os h
    exact rj hc none (nN 8 [oT]) (ar 5 a4 tv)
   obtain rfl := os h
   exact rj hc none (nN 4 (n_ 4 [oF])) (ar 4 (neT a4) (ai a4 tv))
  clear a3
  obtain ⟨a5,a6,h⟩ := Qe5 h
  refine Wp.into (x := .normal) (mkS [(1,I by1),(2,I from2),(3,.ra 1 0),(6,.ra 2 0),(7,.ra 4 0)] [(1,K1y t0),(2,zT),(3,rI a0),(4,.box [I t0.fOp,I a5,.rs 3,.nils])]) ?_ ?_
  ·replace h := a6
   refine ic h (fun a7 h => ?_) fun a7 h => ?_
   ·obtain rfl := os h
    exact rj0 hc 6
   obtain rfl := os h
   exact sk (iv [])
  clear a6
  refine sN (K9e hc 1 [(1,I by1),(2,I from2),(3,.ra 1 0),(6,.ra 2 0),(7,.ra 4 0),(8,I 0)] (bk 0 ?_))
  obtain ⟨a8,a9,h⟩ := Qe5 h
  have hL := spec_l2Shift_l0_ih _ _ a9 c hc
  refine Wp.loopN (by kernel_rfl) (WpL.view (fun a w hv => SRx.renL [(9,18)] (SRx.nilBL 4 3 18 [I t0.fOp,I a5,.rs 3,.nils] hv (by kernel_rfl) (by kernel_rfl) (by kernel_rfl)) (by kernel_rfl) (by kernel_rfl) (by kernel_rfl)) (?_ : WpL _ c _ _ (mkS [(1,I by1),(2,I from2),(3,.ra 1 0),(6,.ra 2 0),(7,.ra 4 0),(8,I 0)] [(1,K1y t0),(2,zT),(3,rI a0),(4,.box [I t0.fOp,I a5,.rs 3,.rs 9]),(9,.arr (List.map K0k []))])))
  refine wl hL ?_
  obtain rfl := os h
  exact Qdj (K9f hc 2 [7] [] [(2,.box [I t0.fOp,I a5,.rs 3,.rs 9]),(3,rI a0),(9,rM K0k a8)] (rt (rq [true])))
 ·rintro spec_l2Shift_f spec_l2Shift_l0_f spec_l2Shift_ih spec_l2Shift_l0_ih ⟨t0,by1,from2,a0,a5,b1,b2⟩ r h
  intro c hc
  refine WpL.step (sN (K9g hc none [oN,oN,oN,nQ ⟨[(34,I (t0.fKids.length : Int))],[],[]⟩,oN] [] [(35,.bool (decide (b2 < (t0.fKids.length : Int))))] (ai (Qeb (d := 34) K0h t0.fKids) tv) (ic h (fun b3 h => ?_) fun b3 h => ?_)))
  ·refine sk (sN (bk 1 ?_))
   obtain ⟨b4,b5,b6,b7,b8,b9,_,c0,h⟩ := bq4 h
   exact rgd hc (rx [[0],[1],[0],[0,2],[0],[0,2,3,4],[0,2,3,4,5],[0],[0],[0],[0,9],[0],[0,9,10,11],[0,8,9,10,11,12],[0,2,3,4,5,6,7,8,9,10,11,12,13],[0,2,3,4,5,6,7,8,9,10,11,12,13,14],[16],[17],[18]]) (nN 5 ([eL (K1z b4)]++nN 6 [oc (I b6),oN,some (.call (K2f b8) [] 14),some (.eqv (.mk 16 true) ⟨[(53,.rs 16)],[(16,some (.arr (List.map K0k [b8]))),(14,none),(15,none)],[16]⟩),some (.eqv (.mk 17 true) ⟨[(54,.rs 17)],[(17,some (rM K0k (b1 ++ [b8]))),(9,none),(16,none)],[17]⟩),oN,oN])) [35] [] [(1,K1y t0),(2,zT),(3,rI a0),(4,.box [I t0.fOp,I a5,.rs 3,.rs 17]),(17,rM K0k (b1 ++ [b8]))] (ai (Qe9 b5 (K0o b4)) (cq (Kgk _ _ b7) K69 (cq (spec_l2Shift_ih _ _ b9) K6b (ac (congrArg (fun z => (⟨[(53,.rs 16)],[(16,some (.arr z)),(14,none),(15,none)],[16]⟩ : Wr)) ((Qfc (K0q b8) Qfb) : [AV.agg [I b8.fOp,I b8.fN,oI b8.fType,oM K0k b8.fKids]] = List.map K0k [b8])) (congrArg (fun z => (⟨[(54,.rs 17)],[(17,some (.arr z)),(9,none),(16,none)],[17]⟩ : Wr)) ((List.map_append).symm : (List.map K0k b1) ++ (List.map K0k [b8]) = List.map K0k (b1 ++ [b8]))) (Qej (enc1 := K0k) (enc2 := K0k) (e1 := b1) (e2 := [b8]) (sz := 4) K1f K1f c0) tv)))) (K9a hc 3 [(1,I by1),(2,I from2),(3,.ra 1 0),(6,.ra 2 0),(7,.ra 4 0),(8,I (wr (b2 + 1)))] (Qdn (WpL.view (fun a w hv => SRx.renL [(9,17)] hv (by kernel_rfl) (by kernel_rfl) (by kernel_rfl)) (spec_l2Shift_l0_ih _ _ h c hc))))
  obtain rfl := os h
  exact xt 0 (Qdh (Qdo (iv [])))
theorem Kgr : ∀ p r,Kgm p = some r → Kgo p r := Kgq.1
theorem Kgs : ∀ p r,Kgn p = some r → Kgp p r := Kgq.2
def Kgt (c : Ctx) (c0 : K02) (s1 : K00) (ctx2 : LL) (ty3 : List Int) (deep4 : Int) (a0 : K02) : (Unit) ⊕ ((K01 × K02)) → Exit → Q0a → Prop
 | .inl _ => Qdr c (.exit 0) (mkS [(0,.ra 1000 0),(2,.rs 3000),(3,sI ty3),(4,I deep4),(6,.ra 1 0),(10,.ra 2 0)] [(1,K1v s1),(2,zT),(1000,K21 a0),(3000,rM K14 ctx2)])
 | .inr r => Qe3 TIx Tryz.f231 [K23 c0,K1w s1,.osl (List.map K14 ctx2),sI ty3,I deep4] (K1z r.1,[K23 r.2,.undef,.osl (List.map K14 ctx2),.undef,.undef])
def Kgu (c : Ctx) (c0 : K02) (s1 : K00) (ctx2 : LL) (ty3 : List Int) (deep4 : Int) : ((List Int) × Int × Int) ⊕ ((K01 × K02)) → Exit → Q0a → Prop
 | .inl (a0,a1,a2) => Qdr c .normal (mkS [(0,.ra 1000 0),(2,.rs 3000),(3,sI ty3),(4,I deep4),(6,.ra 1 0),(10,.ra 2 0)] [(1,K1v s1),(2,zT),(1000,.box [sM U8 a0,I a1,I a2]),(3000,rM K14 ctx2)])
 | .inr r => Qe3 TIx Tryz.f231 [K23 c0,K1w s1,.osl (List.map K14 ctx2),sI ty3,I deep4] (K1z r.1,[K23 r.2,.undef,.osl (List.map K14 ctx2),.undef,.undef])
def Kgv (c : Ctx) (c0 : K02) (s1 : K00) (ctx2 : LL) (ty3 : List Int) (deep4 : Int) (a0 : List Int) (a1 : K01) (a2 : Int) (a3 : K02) : (Unit) ⊕ ((K01 × K02)) → Exit → Q0a → Prop
 | .inl _ => Qdr c .normal (mkS [(0,.ra 1000 0),(2,.rs 3000),(4,I deep4),(6,.ra 1 0),(10,.ra 2 0),(28,sI a0),(32,.ra 50 0)] [(1,K1v s1),(2,zT),(49,.arr (List.map K0h [a1])),(50,.box [I 9,I a2,sI a0,.rs 49]),(1000,K21 a3),(3000,rM K14 ctx2)])
 | .inr r => Qe3 TIx Tryz.f251 [K23 c0,K1w s1,.osl (List.map K14 ctx2),sI ty3,I deep4] (K1z r.1,[K23 r.2,.undef,.osl (List.map K14 ctx2),.undef,.undef])
def Kgw (c : Ctx) (ctx2 : LL) (a0 : List Int) (a1 : Int) : Int × Int × (List Int) × (List K01) × (List Int) × Int × Int → Exit → Q0a → Prop
 | (a2,a3,a4,a5,a6,a7,a8) => Qdr c (.exit 0) (mkS [(10,.ra 2 0),(11,sI a0),(13,I a1),(15,.ra 9 0)] [(2,zT),(9,.box [I a2,I a3,sI a4,sM K0h a5]),(1000,.box [sM U8 a6,I a7,I a8]),(3000,rM K14 ctx2)])
def Kgx (p : K02 × K00 × LL × (List Int) × Int × Int × K02 × Int) : Option ((Unit) ⊕ ((K01 × K02))) :=
 match p with
 | (c0,s1,ctx2,ty3,deep4,a0,a1,a2) =>
  if (decide (a2 < (ctx2.length : Int))) = true then
  (chk ((ctx2.length : Int) ≠ 0)) >>= fun _ =>
  (idx ctx2 (Int.tmod (wr (a0 + a2)) (ctx2.length : Int))) >>= fun a3 =>
  (Ke2 (a3,ty3)) >>= fun a4 =>
  if a4 = true then
  (Ke5 (0,(Int.tmod (wr (a0 + a2)) (ctx2.length : Int)),[])) >>= fun a5 =>
  some (.inr (a5,a1))
  else
  Kgx (c0,s1,ctx2,ty3,deep4,a0,a1,(wr (a2 + 1)))
  else
  some (.inl ())
 partial_fixpoint
def Kgy (p : K02 × K00 × LL × (List Int) × Int × Int × K02 × Int) (fl : (Unit) ⊕ ((K01 × K02))) : Prop :=
 match p with
 | (c0,s1,ctx2,ty3,deep4,a0,a1,a2) => ∀ c : Ctx,c.nt = 167 → WpL Tryz.prog c (cl (cl (cr (cr (cl (cr (cl (cr K52)))))))) (Kgt c c0 s1 ctx2 ty3 deep4 a1 fl) (mkS [(0,.ra 1000 0),(2,.rs 3000),(3,sI ty3),(4,I deep4),(6,.ra 1 0),(10,.ra 2 0),(11,I a0),(12,I a2)] [(1,K1v s1),(2,zT),(1000,K21 a1),(3000,rM K14 ctx2)])
theorem Kgz : ∀ p r,Kgx p = some r → Kgy p r := by
 refine Kgx.partial_correctness Kgy ?_
 rintro spec_dOf_l0_f spec_dOf_l0_ih ⟨c0,s1,ctx2,ty3,deep4,a0,a1,a2⟩ r h
 intro c hc
 refine WpL.step (sN (K9g hc none [oN,oN,nQ ⟨[(24,I (ctx2.length : Int))],[],[]⟩,oN] [] [(25,.bool (decide (a2 < (ctx2.length : Int))))] (ai (Qeb (d := 24) K14 ctx2) tv) (ic h (fun a3 h => ?_) fun a3 h => ?_)))
 ·refine sk (sN (bk 1 ?_))
  obtain ⟨_,a4,h⟩ := Qe5 h
  refine K9g hc none (nN 4 [nQ ⟨[(32,I (ctx2.length : Int))],[],[]⟩,oN,oN]) [25] [(13,I (Int.tmod (wr (a0 + a2)) (ctx2.length : Int)))] (ab (Qeb (d := 32) K14 ctx2) (Qe7 a4) tv) ?_
  obtain ⟨a5,a6,a7,a8,h⟩ := bq2 h
  refine K9g hc none [oN,oN,oN,eL (sI a5),oN,oc (.bool a7)] [] [(39,.bool a7)] (ab (Qea (enc := K14) a6) (xL a6).2 (cq (Ke4 _ _ a8) K4x tv)) (ic h (fun a9 h => ?_) fun a9 h => ?_)
  ·obtain ⟨b1,b2,h⟩ := Qe5 h
   obtain rfl := os h
   exact rs hc none [oN,oc (K1z b1),oN] [(10,.ra 2 0)] [(2,K1y b1),(1000,K21 a1),(3000,rM K14 ctx2)] (cq (Q77.args (A1 := [I 0,I (Int.tmod (wr (a0 + a2)) (ctx2.length : Int)),.sl []]) (A2 := [I 0,I (Int.tmod (wr (a0 + a2)) (ctx2.length : Int)),.sl (List.map K0h [])]) (by simp only [List.map_nil]) (Ke7 _ _ b2)) K4z tv) (rt (rp [false]))
  exact sk (ri0 hc 3 (Qdn (spec_dOf_l0_ih _ _ h c hc)))
 obtain rfl := os h
 exact xt 0 (Qdh (Qdo (iv [])))
end Go.Am
