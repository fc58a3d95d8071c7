/- Walks, printed. -/
import Derived.Test.YtjolnnofmlaeaaaDoorGSYTi
set_option linter.unusedVariables false
set_option linter.unusedSimpArgs false
set_option maxRecDepth 100000
namespace Go.Am
open Go Go.Proofs
def K30 : Option (List (List Nat)) := rx [[0],[1],[0],[0],[0],[0,2,3,4],[0,2,3,4,5],[7],[0],[0,8],[0],[0],[0],[8,10,11,12],[8,10,11,12,13],[15],[0],[0,16],[0],[0],[0],[16,18,19,20],[16,18,19,20,21],[23],[10,16,17],[25],[26],[27],[28],[29]]
def K31 : Option (List (List Nat)) := rx [[0],[0],[0],[0,1,2],[0],[0],[0,1,2,3,4,5],[0,1,2,3,4,5,6],[8],[9]]
def K32 (code0 : (List Int)) : Option (Bool) :=
 some (decide ((code0.length : Int) > 1048576))
def K33 (code0 : (List Int)) (r : Bool) : Prop :=
 Q7a Tryd.prog 4 [sM U8 code0] (.bool r) []
theorem K34 : ∀ p r,K32 p = some r → K33 p r := by
 rintro code0 r h
 unfold K32 at h
 refine b0 Tryd.f4 B4 6 [(0,sM U8 code0)] fun c hc => ?_
 obtain rfl := os h
 exact K2x hc 1 [] [] [] (rs hc none [oN,nQ ⟨[(4,I (code0.length : Int))],[],[]⟩,oN,oN] [(2,.bool (decide ((code0.length : Int) > 1048576)))] [] (ai (Qer (d := 4) U8 code0) tv) (rt (rq [true])))
def K35 (p : (List Int) × Int) : Option (Int) :=
 match p with
 | (code0,i1) =>
  if (decide (i1 < (code0.length : Int))) = true then
  (idx code0 i1) >>= fun a0 =>
  some (wr a0)
  else
  some (Int.tmod (wr ((wr (i1 * 7)) + (code0.length : Int))) 256)
def K36 (p : (List Int) × Int) (r : Int) : Prop :=
 match p with
 | (code0,i1) => Q7a Tryd.prog 6 [sM U8 code0,I i1] (I r) []
theorem K37 : ∀ p r,K35 p = some r → K36 p r := by
 rintro ⟨code0,i1⟩ r h
 unfold K35 at h
 refine b0 Tryd.f6 B6 20 [(0,sM U8 code0),(1,I i1)] fun c hc => (K2x hc 1 [] [] [] (sN (rsd hc none [oN,oN,nQ ⟨[(7,I (code0.length : Int))],[],[]⟩,oN] [] [(8,.bool (decide (i1 < (code0.length : Int))))] [] (ai (Qer (d := 7) U8 code0) tv) (ic h (fun a0 h => ?_) fun a0 h => ?_))))
 ·obtain ⟨a1,a2,h⟩ := Qel h
  obtain rfl := os h
  exact rs hc none [oN,oN,eL (.int .u8 a1),oN,oN,oN] [(4,I (wr a1))] [] (ai (Qep (enc := U8) (x := .int .u8 a1) a2 (Qf1 a1)) tv) (rt (rq [true]))
 obtain rfl := os h
 exact sk (rs hc none [oN,oN,oN,nQ ⟨[(17,I (code0.length : Int))],[],[]⟩,oN,oN,oN] [(4,I (Int.tmod (wr ((wr (i1 * 7)) + (code0.length : Int))) 256))] [] (ab (Qer (d := 17) U8 code0) ((by decide) : (256 : Int) ≠ 0) tv) (rt (rq [true])))
def K38 (p : Int × Int × Int) : Option (Bool) :=
 match p with
 | (n0,low1,high2) =>
  ((
  if (decide (n0 ≥ low1)) = true then
  some ((decide (n0 ≤ high2)))
  else
  some (false)
  ) : Option (Bool)) >>= fun a0 =>
  some a0
def K39 (p : Int × Int × Int) (r : Bool) : Prop :=
 match p with
 | (n0,low1,high2) => Q7a Tryd.prog 14 [I n0,I low1,I high2] (.bool r) []
theorem K3a : ∀ p r,K38 p = some r → K39 p r := by
 rintro ⟨n0,low1,high2⟩ r h
 unfold K38 at h
 refine b0 Tryd.f14 B14 15 [(0,I n0),(1,I low1),(2,I high2)] fun c hc => (K2x hc 1 [] [] [] (sN ?_))
 obtain ⟨a0,a1,h⟩ := Qel h
 refine Wp.into (x := .normal) (mkS [(6,.bool a0)] []) ?_ ?_
 ·replace h := a1
  rcases is h with ⟨a2,h⟩ | ⟨a2,h⟩
  ·obtain rfl := os h
   exact rj hc none (nN 7 [oT,oN]) (ar 4 a2 tv)
  obtain rfl := os h
  exact rj hc none (nN 4 [o_,o_,o_,oF,oN]) (ar 3 (neT a2) (ai a2 tv))
 clear a1
 obtain rfl := os h
 exact rt (rq [true])
def K3b (p : Int × Int × Int) : Option (Int) :=
 match p with
 | (a0,b1,cap0) =>
  some (mnx false (wr (a0 + b1)) cap0)
def K3c (p : Int × Int × Int) (r : Int) : Prop :=
 match p with
 | (a0,b1,cap0) => Q7a Tryd.prog 41 [I a0,I b1,.ptr [I cap0] 0] (I r) []
theorem K3d : ∀ p r,K3b p = some r → K3c p r := by
 rintro ⟨a0,b1,cap0⟩ r h
 unfold K3b at h
 refine b0 Tryd.f41 B41 11 [(0,I a0),(1,I b1),(2,.ptr [I cap0] 0)] fun c hc => ?_
 obtain rfl := os h
 exact K2x hc 1 [] [] [] (rs0 hc 6 [(5,I (mnx false (wr (a0 + b1)) cap0))] [] (rt (rq [true])))
def K3e (p : Int × Int × Int) : Option (Int) :=
 match p with
 | (a0,b1,cap0) =>
  ((
  if (a0 == 0) = true then
  some (true)
  else
  some ((b1 == 0))
  ) : Option (Bool)) >>= fun a1 =>
  if a1 = true then
  some 0
  else
  ((
  if (a0 == cap0) = true then
  some (true)
  else
  some ((b1 == cap0))
  ) : Option (Bool)) >>= fun a2 =>
  if a2 = true then
  some cap0
  else
  some (mnx false (wr (a0 * b1)) cap0)
def K3f (p : Int × Int × Int) (r : Int) : Prop :=
 match p with
 | (a0,b1,cap0) => Q7a Tryd.prog 42 [I a0,I b1,.ptr [I cap0] 0] (I r) []
theorem K3g : ∀ p r,K3e p = some r → K3f p r := by
 rintro ⟨a0,b1,cap0⟩ r h
 unfold K3e at h
 refine b0 Tryd.f42 B42 28 [(0,I a0),(1,I b1),(2,.ptr [I cap0] 0)] fun c hc => (K2x hc 1 [] [] [] (sN (bk 0 (sN ?_))))
 obtain ⟨a1,a2,h⟩ := Qel h
 refine wi [] [(6,.bool a1)] ?_ ?_
 ·replace h := a2
  rcases is h with ⟨a3,h⟩ | ⟨a3,h⟩
  ·obtain rfl := os h
   exact rj hc none [oN,oN,oN,o_,o_,oT,oN] (ar 2 (neF a3) (ai a3 tv))
  obtain rfl := os h
  exact rj hc none (nN 5 [oF,oN]) (ar 3 a3 tv)
 clear a2
 refine ic h (fun a4 h => ?_) fun a4 h => ?_
 ·obtain rfl := os h
  exact rs0 hc 1 [(5,I 0)] [] (rt (rq [true]))
 refine sN ?_
 obtain ⟨a5,a6,h⟩ := Qel h
 refine wi [6] [(13,.bool a5)] ?_ ?_
 ·replace h := a6
  rcases is h with ⟨a7,h⟩ | ⟨a7,h⟩
  ·obtain rfl := os h
   exact rj hc none (nN 4 [o_,o_,o_,oT,oN]) (ar 3 (neF a7) (ai a7 tv))
  obtain rfl := os h
  exact rj hc none (nN 7 [oF,oN]) (ar 4 a7 tv)
 clear a6
 refine ic h (fun a8 h => ?_) fun a8 h => ?_
 ·obtain rfl := os h
  exact rs0 hc 2 [(5,I cap0)] [] (rt (rq [true]))
 obtain rfl := os h
 exact sk (rs0 hc 6 [(5,I (mnx false (wr (a0 * b1)) cap0))] [] (rt (rq [true])))
def K3h (p : Int × Int) : Option (Bool) :=
 match p with
 | (a0,b1) =>
  some (decide (a0 ≤ b1))
def K3i (p : Int × Int) (r : Bool) : Prop :=
 match p with
 | (a0,b1) => Q7a Tryd.prog 16 [I a0,I b1] (.bool r) []
theorem K3j : ∀ p r,K3h p = some r → K3i p r := by
 rintro ⟨a0,b1⟩ r h
 unfold K3h at h
 refine b0 Tryd.f16 B16 8 [(0,I a0),(1,I b1)] fun c hc => ?_
 obtain rfl := os h
 exact K2x hc 1 [] [] [] (rs0 hc 4 [(4,.bool (decide (a0 ≤ b1)))] [] (rt (rq [true])))
def K3k (c : Ctx) (size0 : Int) (clo1_0 : Int) (clo2_0 : Int) (a0 : Int) : (List Int) × (List Int) × (List Bool) → Exit → Q0d → Prop
 | (a1,a2,a3) => Qe7 c (.exit 2) (mkS [(0,I size0),(1,.fn 41 [.ptr [I clo1_0] 0]),(2,.fn 42 [.ptr [I clo2_0] 0]),(3,.fn 16 []),(8,.ra 1 0),(9,.ra 2 0),(10,I a0)] [(1,zS),(2,.box [I size0,.rs 27,.rs 28,.rs 29]),(27,rI a1),(28,rI a2),(29,rM AV.bool a3)])
def K3l (p : Int × Int × Int × Int × (List Int) × (List Int) × (List Bool) × Int) : Option ((List Int) × (List Int) × (List Bool)) :=
 match p with
 | (size0,clo1_0,clo2_0,a0,a1,a2,a3,a4) =>
  if (decide (a4 < size0)) = true then
  (K3b (a0,a4,clo1_0)) >>= fun a5 =>
  (Qey (a1.length + [a5].length) 8) >>= fun _ =>
  (K3e (a0,a4,clo2_0)) >>= fun a6 =>
  (Qey (a2.length + [a6].length) 8) >>= fun _ =>
  (K3h (a0,a4)) >>= fun a7 =>
  (Qey (a3.length + [a7].length) 1) >>= fun _ =>
  K3l (size0,clo1_0,clo2_0,a0,(a1 ++ [a5]),(a2 ++ [a6]),(a3 ++ [a7]),(wr (a4 + 1)))
  else
  some ((a1,a2,a3))
 partial_fixpoint
def K3m (p : Int × Int × Int × Int × (List Int) × (List Int) × (List Bool) × Int) (fl : (List Int) × (List Int) × (List Bool)) : Prop :=
 match p with
 | (size0,clo1_0,clo2_0,a0,a1,a2,a3,a4) => ∀ c : Ctx,c.nt = 52 → WpL Tryd.prog c (cl (cl (cr (cl (cl (cr (cl (cl (cr (cl (cr (cr B19)))))))))))) (K3k c size0 clo1_0 clo2_0 a0 fl) (mkS [(0,I size0),(1,.fn 41 [.ptr [I clo1_0] 0]),(2,.fn 42 [.ptr [I clo2_0] 0]),(3,.fn 16 []),(8,.ra 1 0),(9,.ra 2 0),(10,I a0),(11,I a4)] [(1,zS),(2,.box [I size0,.rs 27,.rs 28,.rs 29]),(27,rI a1),(28,rI a2),(29,rM AV.bool a3)])
theorem K3n : ∀ p r,K3l p = some r → K3m p r := by
 refine K3l.partial_correctness K3m ?_
 rintro impl_tabled_Kimpl_counted_c1_Kimpl_counted_c2_Kimpl_BoundSystem_c1_l0_f impl_tabled_Kimpl_counted_c1_Kimpl_counted_c2_Kimpl_BoundSystem_c1_l0_ih ⟨size0,clo1_0,clo2_0,a0,a1,a2,a3,a4⟩ r h
 intro c hc
 refine WpL.step (sN (K2z hc 3 [] [(21,.bool (decide (a4 < size0)))] (ic h (fun a5 h => ?_) fun a5 h => ?_)))
 ·refine sk (sN (bk 3 ?_))
  obtain ⟨a6,a7,_,a8,a9,b1,_,b2,h⟩ := bq4 h
  obtain ⟨b3,b4,_,b5,h⟩ := bq2 h
  exact rgd hc K30 (nN 5 ([oc (I a6),mK 48,some (.eqv (.mk 49 true) ⟨[(31,.rs 49)],[(49,some (rI (a1 ++ [a6]))),(27,none),(48,none)],[49]⟩)]++nN 5 ([oc (I a9),mK 50,some (.eqv (.mk 51 true) ⟨[(39,.rs 51)],[(51,some (rI (a2 ++ [a9]))),(28,none),(50,none)],[51]⟩)]++nN 5 ([oc (.bool b3),mK 52,some (.eqv (.mk 53 true) ⟨[(47,.rs 53)],[(53,some (rM AV.bool (a3 ++ [b3]))),(29,none),(52,none)],[53]⟩)]++nN 6 [])))) [21] [] [(1,zS),(2,.box [I size0,.rs 49,.rs 51,.rs 53]),(49,rI (a1 ++ [a6])),(51,rI (a2 ++ [a9])),(53,rM AV.bool (a3 ++ [b3]))] (cq (K3d _ _ a7) K1i (ab (congrArg (fun z => (⟨[(31,.rs 49)],[(49,some (.arr z)),(27,none),(48,none)],[49]⟩ : Wr)) ((List.map_append).symm : (List.map I a1) ++ (List.map I [a6]) = List.map I (a1 ++ [a6]))) (Qez (enc1 := I) (enc2 := I) (e1 := a1) (e2 := [a6]) (sz := 1) Qf8 Qf8 a8) (cq (K3g _ _ b1) K1j (ab (congrArg (fun z => (⟨[(39,.rs 51)],[(51,some (.arr z)),(28,none),(50,none)],[51]⟩ : Wr)) ((List.map_append).symm : (List.map I a2) ++ (List.map I [a9]) = List.map I (a2 ++ [a9]))) (Qez (enc1 := I) (enc2 := I) (e1 := a2) (e2 := [a9]) (sz := 1) Qf8 Qf8 b2) (cq (K3j _ _ b4) K1k (ab (congrArg (fun z => (⟨[(47,.rs 53)],[(53,some (.arr z)),(29,none),(52,none)],[53]⟩ : Wr)) ((List.map_append).symm : (List.map AV.bool a3) ++ (List.map AV.bool [b3]) = List.map AV.bool (a3 ++ [b3]))) (Qez (enc1 := AV.bool) (enc2 := AV.bool) (e1 := a3) (e2 := [b3]) (sz := 1) Qfa Qfa b5) tv)))))) (K2s hc 3 [(0,I size0),(1,.fn 41 [.ptr [I clo1_0] 0]),(2,.fn 42 [.ptr [I clo2_0] 0]),(3,.fn 16 []),(8,.ra 1 0),(9,.ra 2 0),(10,I a0),(11,I (wr (a4 + 1)))] (Qe3 (WpL.view (fun a w hv => SRx.renL [(27,49),(28,51),(29,53)] hv (by kernel_rfl) (by kernel_rfl) (by kernel_rfl)) (impl_tabled_Kimpl_counted_c1_Kimpl_counted_c2_Kimpl_BoundSystem_c1_l0_ih _ _ h c hc))))
 refine xt 2 (Qdx (Qe4 ?_))
 obtain ⟨rfl,hq0⟩ := Prod.mk.inj (os h)
 obtain ⟨rfl,rfl⟩ := Prod.mk.inj (hq0)
 exact iv []
def K3o (c : Ctx) (size0 : Int) : (List Int) × (List Int) × (List Bool) → Exit → Q0d → Prop
 | (a0,a1,a2) => Qe7 c (.exit 0) (mkS [(8,.ra 1 0),(9,.ra 2 0)] [(1,zS),(2,.box [I size0,.rs 27,.rs 28,.rs 29]),(27,rI a0),(28,rI a1),(29,rM AV.bool a2)])
def K3p (p : Int × Int × Int × (List Int) × (List Int) × (List Bool) × Int) : Option ((List Int) × (List Int) × (List Bool)) :=
 match p with
 | (size0,clo1_0,clo2_0,a0,a1,a2,a3) =>
  if (decide (a3 < size0)) = true then
  (K3l (size0,clo1_0,clo2_0,a3,a0,a1,a2,0)) >>= fun (a4,a5,a6) =>
  K3p (size0,clo1_0,clo2_0,a4,a5,a6,(wr (a3 + 1)))
  else
  some ((a0,a1,a2))
 partial_fixpoint
def K3q (p : Int × Int × Int × (List Int) × (List Int) × (List Bool) × Int) (fl : (List Int) × (List Int) × (List Bool)) : Prop :=
 match p with
 | (size0,clo1_0,clo2_0,a0,a1,a2,a3) => ∀ c : Ctx,c.nt = 52 → WpL Tryd.prog c (cl (cl (cr (cl (cr (cr B19)))))) (K3o c size0 fl) (mkS [(0,I size0),(1,.fn 41 [.ptr [I clo1_0] 0]),(2,.fn 42 [.ptr [I clo2_0] 0]),(3,.fn 16 []),(8,.ra 1 0),(9,.ra 2 0),(10,I a3)] [(1,zS),(2,.box [I size0,.rs 27,.rs 28,.rs 29]),(27,rI a0),(28,rI a1),(29,rM AV.bool a2)])
theorem K3r : ∀ p r,K3p p = some r → K3q p r := by
 refine K3p.partial_correctness K3q ?_
 rintro impl_tabled_Kimpl_counted_c1_Kimpl_counted_c2_Kimpl_BoundSystem_c1_l1_f impl_tabled_Kimpl_counted_c1_Kimpl_counted_c2_Kimpl_BoundSystem_c1_l1_ih ⟨size0,clo1_0,clo2_0,a0,a1,a2,a3⟩ r h
 intro c hc
 refine WpL.step (sN (K2z hc 3 [] [(16,.bool (decide (a3 < size0)))] (ic h (fun a4 h => ?_) fun a4 h => ?_)))
 ·refine sk (sN (bk 1 (K2w hc 1 [(0,I size0),(1,.fn 41 [.ptr [I clo1_0] 0]),(2,.fn 42 [.ptr [I clo2_0] 0]),(3,.fn 16 []),(8,.ra 1 0),(9,.ra 2 0),(10,I a3),(11,I 0)] (bk 2 ?_))))
  obtain ⟨⟨a5,a6,a7⟩,a8,h⟩ := Qel h
  have hL := K3n _ _ a8 c hc
  exact lp (wl hL (Qdz (ri0 hc 3 (Qe3 (impl_tabled_Kimpl_counted_c1_Kimpl_counted_c2_Kimpl_BoundSystem_c1_l1_ih _ _ h c hc)))))
 refine xt 0 (Qdx (Qe4 ?_))
 obtain ⟨rfl,hq0⟩ := Prod.mk.inj (os h)
 obtain ⟨rfl,rfl⟩ := Prod.mk.inj (hq0)
 exact iv []
def K3s (p : Int × Int × Int) : Option (K00) :=
 match p with
 | (size0,clo1_0,clo2_0) =>
  (K3p (size0,clo1_0,clo2_0,[],[],[],0)) >>= fun (a0,a1,a2) =>
  some (K00.mk size0 a0 a1 a2)
def K3t (p : Int × Int × Int) (r : K00) : Prop :=
 match p with
 | (size0,clo1_0,clo2_0) => Q7a Tryd.prog 19 [I size0,.fn 41 [.ptr [I clo1_0] 0],.fn 42 [.ptr [I clo2_0] 0],.fn 16 []] (K0s r) []
theorem K3u : ∀ p r,K3s p = some r → K3t p r := by
 rintro ⟨size0,clo1_0,clo2_0⟩ r h
 unfold K3s at h
 refine b0 Tryd.f19 B19 52 [(0,I size0),(1,.fn 41 [.ptr [I clo1_0] 0]),(2,.fn 42 [.ptr [I clo2_0] 0]),(3,.fn 16 [])] fun c hc => (rsd hc none [nW 1] [] [(8,.ra 1 0)] [(1,zS)] tv (rsd hc none [oN,oN,nW 2,oN] [] [(9,.ra 2 0)] [(1,zS),(2,.box [I size0,.nils,.nils,.nils])] tv (sN (K2w hc 1 [(0,I size0),(1,.fn 41 [.ptr [I clo1_0] 0]),(2,.fn 42 [.ptr [I clo2_0] 0]),(3,.fn 16 []),(8,.ra 1 0),(9,.ra 2 0),(10,I 0)] (bk 0 ?_)))))
 obtain ⟨⟨a0,a1,a2⟩,a3,h⟩ := Qel h
 have hL := K3r _ _ a3 c hc
 refine Wp.loopN (by kernel_rfl) (WpL.view (fun a w hv => SRx.renL [(27,54),(28,55),(29,56)] (SRx.nilBL 2 3 56 [I size0,.rs 54,.rs 55,.nils] (SRx.nilBL 2 2 55 [I size0,.rs 54,.nils,.nils] (SRx.nilBL 2 1 54 [I size0,.nils,.nils,.nils] hv (by kernel_rfl) (by kernel_rfl) (by kernel_rfl)) (by kernel_rfl) (by kernel_rfl) (by kernel_rfl)) (by kernel_rfl) (by kernel_rfl) (by kernel_rfl)) (by kernel_rfl) (by kernel_rfl) (by kernel_rfl)) (?_ : WpL _ c _ _ (mkS [(0,I size0),(1,.fn 41 [.ptr [I clo1_0] 0]),(2,.fn 42 [.ptr [I clo2_0] 0]),(3,.fn 16 []),(8,.ra 1 0),(9,.ra 2 0),(10,I 0)] [(1,zS),(2,.box [I size0,.rs 27,.rs 28,.rs 29]),(27,.arr (List.map I [])),(28,.arr (List.map I [])),(29,.arr (List.map AV.bool []))])))
 refine wl hL ?_
 obtain rfl := os h
 exact Qdz (K2x hc 2 [9] [] [(1,.box [I size0,.rs 27,.rs 28,.rs 29]),(27,rI a0),(28,rI a1),(29,rM AV.bool a2)] (rt (rq [true])))
def K3v (n0 : Int) : Option (K00) :=
 (K3s ((wr (n0 + 2)),(wr (n0 + 1)),(wr (n0 + 1)))) >>= fun a0 =>
 some a0
def K3w (n0 : Int) (r : K00) : Prop :=
 Q7a Tryd.prog 15 [I n0,.fn 16 []] (K0s r) []
theorem K3x : ∀ p r,K3v p = some r → K3w p r := by
 rintro n0 r h
 unfold K3v at h
 refine b0 Tryd.f15 B15 18 [(0,I n0),(1,.fn 16 [])] fun c hc => (rsd hc none [nW 1] [] [(4,.ra 1 0)] [(1,zS)] tv (rsd hc none [oN,oN,nW 2,oN] [] [(5,.ra 2 0)] [(1,zS),(2,.box [I (wr (n0 + 1))])] tv (K2z hc 2 [] [(6,.fn 41 [.ra 2 0])] (K2z hc 2 [5] [(7,.fn 42 [.ra 2 0])] ?_))))
 obtain ⟨a0,a1,h⟩ := Qel h
 obtain rfl := os h
 exact rs hc none (nN 5 [some (.call (K0s a0) [] 3),oN]) [(4,.ra 1 0)] [(1,.box [I a0.fSize,.rs 3,.rs 4,.rs 5]),(3,rI a0.fPlus),(4,rI a0.fTimes),(5,rM AV.bool a0.fBelow)] (ac (K3u _ _ a1) K1l (Or.inr (Qfn rfl (Qfn (Qfl Qfh a0.fPlus) (Qfn (Qfl Qfh a0.fTimes) (Qfn (Qfl Qfj a0.fBelow) rfl)))) : ([2,2] : List Nat) = [] ∨ noSh (K0s a0) = true) tv) (rt (rq [true]))
def K3y (n0 : Int) : Option (K00) :=
 (K38 (n0,1,14)) >>= fun a0 =>
 if a0 = true then
 (K3v n0) >>= fun a1 =>
 some a1
 else
 some (K00.mk 0 [] [] [])
def K3z (n0 : Int) (r : K00) : Prop :=
 Q7a Tryd.prog 5 [I n0] (K0s r) []
theorem K40 : ∀ p r,K3y p = some r → K3z p r := by
 rintro n0 r h
 unfold K3y at h
 refine b0 Tryd.f5 B5 9 [(0,I n0)] fun c hc => (rsd hc none [nW 1] [] [(2,.ra 1 0)] [(1,zS)] tv (sN ?_))
 obtain ⟨a0,a1,h⟩ := Qel h
 refine K2y hc none [oN,oc (.bool a0),oN] [] [(5,.bool (!a0))] (cq (K3a _ _ a1) K1h tv) ?_
 rcases is h with ⟨a2,h⟩ | ⟨a2,h⟩
 ·refine cF (!a0) (nF a2) (sk ?_)
  obtain ⟨a3,a4,h⟩ := Qel h
  obtain rfl := os h
  exact rsd hc none [oN,some (.call (K0s a3) [] 2),oN] [5,0] [] [(1,.box [I a3.fSize,.rs 2,.rs 3,.rs 4]),(2,rI a3.fPlus),(3,rI a3.fTimes),(4,rM AV.bool a3.fBelow)] (cq (K3x _ _ a4) K1m tv) (rt (rq [true]))
 refine cT (!a0) (nT a2) ?_
 obtain rfl := os h
 exact K2z hc 2 [5,0] [] (rt (rq [true]))
def K41 (p : Int × Int × Int) : Option (Bool) :=
 match p with
 | (a0,b1,cap0) =>
  ((
  if (a0 == b1) = true then
  some (true)
  else
  some ((b1 == (wr (cap0 + 1))))
  ) : Option (Bool)) >>= fun a1 =>
  some a1
def K42 (p : Int × Int × Int) (r : Bool) : Prop :=
 match p with
 | (a0,b1,cap0) => Q7a Tryd.prog 17 [I a0,I b1,.ptr [I cap0] 0] (.bool r) []
theorem K43 : ∀ p r,K41 p = some r → K42 p r := by
 rintro ⟨a0,b1,cap0⟩ r h
 unfold K41 at h
 refine b0 Tryd.f17 B17 15 [(0,I a0),(1,I b1),(2,.ptr [I cap0] 0)] fun c hc => (K2x hc 1 [] [] [] (sN ?_))
 obtain ⟨a1,a2,h⟩ := Qel h
 refine Wp.into (x := .normal) (mkS [(5,.bool a1)] []) ?_ ?_
 ·replace h := a2
  rcases is h with ⟨a3,h⟩ | ⟨a3,h⟩
  ·obtain rfl := os h
   exact rj hc none (nN 4 (n_ 4 [oT,oN])) (ar 4 (neF a3) (ai a3 tv))
  obtain rfl := os h
  exact rj hc none (nN 8 [oF,oN]) (ar 5 a3 tv)
 clear a2
 obtain rfl := os h
 exact rt (rq [true])
def K44 (c : Ctx) (size0 : Int) (clo1_0 : Int) (clo2_0 : Int) (clo3_0 : Int) (a0 : Int) : (List Int) × (List Int) × (List Bool) → Exit → Q0d → Prop
 | (a1,a2,a3) => Qe7 c (.exit 2) (mkS [(0,I size0),(1,.fn 41 [.ptr [I clo1_0] 0]),(2,.fn 42 [.ptr [I clo2_0] 0]),(3,.fn 17 [.ptr [I clo3_0] 0]),(8,.ra 1 0),(9,.ra 2 0),(10,I a0)] [(1,zS),(2,.box [I size0,.rs 27,.rs 28,.rs 29]),(27,rI a1),(28,rI a2),(29,rM AV.bool a3)])
def K45 (p : Int × Int × Int × Int × Int × (List Int) × (List Int) × (List Bool) × Int) : Option ((List Int) × (List Int) × (List Bool)) :=
 match p with
 | (size0,clo1_0,clo2_0,clo3_0,a0,a1,a2,a3,a4) =>
  if (decide (a4 < size0)) = true then
  (K3b (a0,a4,clo1_0)) >>= fun a5 =>
  (Qey (a1.length + [a5].length) 8) >>= fun _ =>
  (K3e (a0,a4,clo2_0)) >>= fun a6 =>
  (Qey (a2.length + [a6].length) 8) >>= fun _ =>
  (K41 (a0,a4,clo3_0)) >>= fun a7 =>
  (Qey (a3.length + [a7].length) 1) >>= fun _ =>
  K45 (size0,clo1_0,clo2_0,clo3_0,a0,(a1 ++ [a5]),(a2 ++ [a6]),(a3 ++ [a7]),(wr (a4 + 1)))
  else
  some ((a1,a2,a3))
 partial_fixpoint
def K46 (p : Int × Int × Int × Int × Int × (List Int) × (List Int) × (List Bool) × Int) (fl : (List Int) × (List Int) × (List Bool)) : Prop :=
 match p with
 | (size0,clo1_0,clo2_0,clo3_0,a0,a1,a2,a3,a4) => ∀ c : Ctx,c.nt = 52 → WpL Tryd.prog c (cl (cl (cr (cl (cl (cr (cl (cl (cr (cl (cr (cr B19)))))))))))) (K44 c size0 clo1_0 clo2_0 clo3_0 a0 fl) (mkS [(0,I size0),(1,.fn 41 [.ptr [I clo1_0] 0]),(2,.fn 42 [.ptr [I clo2_0] 0]),(3,.fn 17 [.ptr [I clo3_0] 0]),(8,.ra 1 0),(9,.ra 2 0),(10,I a0),(11,I a4)] [(1,zS),(2,.box [I size0,.rs 27,.rs 28,.rs 29]),(27,rI a1),(28,rI a2),(29,rM AV.bool a3)])
theorem K47 : ∀ p r,K45 p = some r → K46 p r := by
 refine K45.partial_correctness K46 ?_
 rintro impl_tabled_Kimpl_counted_c1_Kimpl_counted_c2_Kimpl_CountSystem_c1_l0_f impl_tabled_Kimpl_counted_c1_Kimpl_counted_c2_Kimpl_CountSystem_c1_l0_ih ⟨size0,clo1_0,clo2_0,clo3_0,a0,a1,a2,a3,a4⟩ r h
 intro c hc
 refine WpL.step (sN (K2z hc 3 [] [(21,.bool (decide (a4 < size0)))] (ic h (fun a5 h => ?_) fun a5 h => ?_)))
 ·refine sk (sN (bk 3 ?_))
  obtain ⟨a6,a7,_,a8,a9,b1,_,b2,h⟩ := bq4 h
  obtain ⟨b3,b4,_,b5,h⟩ := bq2 h
  exact rgd hc K30 (nN 5 ([oc (I a6),mK 48,some (.eqv (.mk 49 true) ⟨[(31,.rs 49)],[(49,some (rI (a1 ++ [a6]))),(27,none),(48,none)],[49]⟩)]++nN 5 ([oc (I a9),mK 50,some (.eqv (.mk 51 true) ⟨[(39,.rs 51)],[(51,some (rI (a2 ++ [a9]))),(28,none),(50,none)],[51]⟩)]++nN 5 ([oc (.bool b3),mK 52,some (.eqv (.mk 53 true) ⟨[(47,.rs 53)],[(53,some (rM AV.bool (a3 ++ [b3]))),(29,none),(52,none)],[53]⟩)]++nN 6 [])))) [21] [] [(1,zS),(2,.box [I size0,.rs 49,.rs 51,.rs 53]),(49,rI (a1 ++ [a6])),(51,rI (a2 ++ [a9])),(53,rM AV.bool (a3 ++ [b3]))] (cq (K3d _ _ a7) K1i (ab (congrArg (fun z => (⟨[(31,.rs 49)],[(49,some (.arr z)),(27,none),(48,none)],[49]⟩ : Wr)) ((List.map_append).symm : (List.map I a1) ++ (List.map I [a6]) = List.map I (a1 ++ [a6]))) (Qez (enc1 := I) (enc2 := I) (e1 := a1) (e2 := [a6]) (sz := 1) Qf8 Qf8 a8) (cq (K3g _ _ b1) K1j (ab (congrArg (fun z => (⟨[(39,.rs 51)],[(51,some (.arr z)),(28,none),(50,none)],[51]⟩ : Wr)) ((List.map_append).symm : (List.map I a2) ++ (List.map I [a9]) = List.map I (a2 ++ [a9]))) (Qez (enc1 := I) (enc2 := I) (e1 := a2) (e2 := [a9]) (sz := 1) Qf8 Qf8 b2) (cq (K43 _ _ b4) K1o (ab (congrArg (fun z => (⟨[(47,.rs 53)],[(53,some (.arr z)),(29,none),(52,none)],[53]⟩ : Wr)) ((List.map_append).symm : (List.map AV.bool a3) ++ (List.map AV.bool [b3]) = List.map AV.bool (a3 ++ [b3]))) (Qez (enc1 := AV.bool) (enc2 := AV.bool) (e1 := a3) (e2 := [b3]) (sz := 1) Qfa Qfa b5) tv)))))) (K2s hc 3 [(0,I size0),(1,.fn 41 [.ptr [I clo1_0] 0]),(2,.fn 42 [.ptr [I clo2_0] 0]),(3,.fn 17 [.ptr [I clo3_0] 0]),(8,.ra 1 0),(9,.ra 2 0),(10,I a0),(11,I (wr (a4 + 1)))] (Qe3 (WpL.view (fun a w hv => SRx.renL [(27,49),(28,51),(29,53)] hv (by kernel_rfl) (by kernel_rfl) (by kernel_rfl)) (impl_tabled_Kimpl_counted_c1_Kimpl_counted_c2_Kimpl_CountSystem_c1_l0_ih _ _ h c hc))))
 refine xt 2 (Qdx (Qe4 ?_))
 obtain ⟨rfl,hq0⟩ := Prod.mk.inj (os h)
 obtain ⟨rfl,rfl⟩ := Prod.mk.inj (hq0)
 exact iv []
def K48 (c : Ctx) (size0 : Int) : (List Int) × (List Int) × (List Bool) → Exit → Q0d → Prop
 | (a0,a1,a2) => Qe7 c (.exit 0) (mkS [(8,.ra 1 0),(9,.ra 2 0)] [(1,zS),(2,.box [I size0,.rs 27,.rs 28,.rs 29]),(27,rI a0),(28,rI a1),(29,rM AV.bool a2)])
def K49 (p : Int × Int × Int × Int × (List Int) × (List Int) × (List Bool) × Int) : Option ((List Int) × (List Int) × (List Bool)) :=
 match p with
 | (size0,clo1_0,clo2_0,clo3_0,a0,a1,a2,a3) =>
  if (decide (a3 < size0)) = true then
  (K45 (size0,clo1_0,clo2_0,clo3_0,a3,a0,a1,a2,0)) >>= fun (a4,a5,a6) =>
  K49 (size0,clo1_0,clo2_0,clo3_0,a4,a5,a6,(wr (a3 + 1)))
  else
  some ((a0,a1,a2))
 partial_fixpoint
def K4a (p : Int × Int × Int × Int × (List Int) × (List Int) × (List Bool) × Int) (fl : (List Int) × (List Int) × (List Bool)) : Prop :=
 match p with
 | (size0,clo1_0,clo2_0,clo3_0,a0,a1,a2,a3) => ∀ c : Ctx,c.nt = 52 → WpL Tryd.prog c (cl (cl (cr (cl (cr (cr B19)))))) (K48 c size0 fl) (mkS [(0,I size0),(1,.fn 41 [.ptr [I clo1_0] 0]),(2,.fn 42 [.ptr [I clo2_0] 0]),(3,.fn 17 [.ptr [I clo3_0] 0]),(8,.ra 1 0),(9,.ra 2 0),(10,I a3)] [(1,zS),(2,.box [I size0,.rs 27,.rs 28,.rs 29]),(27,rI a0),(28,rI a1),(29,rM AV.bool a2)])
theorem K4b : ∀ p r,K49 p = some r → K4a p r := by
 refine K49.partial_correctness K4a ?_
 rintro impl_tabled_Kimpl_counted_c1_Kimpl_counted_c2_Kimpl_CountSystem_c1_l1_f impl_tabled_Kimpl_counted_c1_Kimpl_counted_c2_Kimpl_CountSystem_c1_l1_ih ⟨size0,clo1_0,clo2_0,clo3_0,a0,a1,a2,a3⟩ r h
 intro c hc
 refine WpL.step (sN (K2z hc 3 [] [(16,.bool (decide (a3 < size0)))] (ic h (fun a4 h => ?_) fun a4 h => ?_)))
 ·refine sk (sN (bk 1 (K2w hc 1 [(0,I size0),(1,.fn 41 [.ptr [I clo1_0] 0]),(2,.fn 42 [.ptr [I clo2_0] 0]),(3,.fn 17 [.ptr [I clo3_0] 0]),(8,.ra 1 0),(9,.ra 2 0),(10,I a3),(11,I 0)] (bk 2 ?_))))
  obtain ⟨⟨a5,a6,a7⟩,a8,h⟩ := Qel h
  have hL := K47 _ _ a8 c hc
  exact lp (wl hL (Qdz (ri0 hc 3 (Qe3 (impl_tabled_Kimpl_counted_c1_Kimpl_counted_c2_Kimpl_CountSystem_c1_l1_ih _ _ h c hc)))))
 refine xt 0 (Qdx (Qe4 ?_))
 obtain ⟨rfl,hq0⟩ := Prod.mk.inj (os h)
 obtain ⟨rfl,rfl⟩ := Prod.mk.inj (hq0)
 exact iv []
def K4c (p : Int × Int × Int × Int) : Option (K00) :=
 match p with
 | (size0,clo1_0,clo2_0,clo3_0) =>
  (K49 (size0,clo1_0,clo2_0,clo3_0,[],[],[],0)) >>= fun (a0,a1,a2) =>
  some (K00.mk size0 a0 a1 a2)
def K4d (p : Int × Int × Int × Int) (r : K00) : Prop :=
 match p with
 | (size0,clo1_0,clo2_0,clo3_0) => Q7a Tryd.prog 19 [I size0,.fn 41 [.ptr [I clo1_0] 0],.fn 42 [.ptr [I clo2_0] 0],.fn 17 [.ptr [I clo3_0] 0]] (K0s r) []
theorem K4e : ∀ p r,K4c p = some r → K4d p r := by
 rintro ⟨size0,clo1_0,clo2_0,clo3_0⟩ r h
 unfold K4c at h
 refine b0 Tryd.f19 B19 52 [(0,I size0),(1,.fn 41 [.ptr [I clo1_0] 0]),(2,.fn 42 [.ptr [I clo2_0] 0]),(3,.fn 17 [.ptr [I clo3_0] 0])] fun c hc => (rsd hc none [nW 1] [] [(8,.ra 1 0)] [(1,zS)] tv (rsd hc none [oN,oN,nW 2,oN] [] [(9,.ra 2 0)] [(1,zS),(2,.box [I size0,.nils,.nils,.nils])] tv (sN (K2w hc 1 [(0,I size0),(1,.fn 41 [.ptr [I clo1_0] 0]),(2,.fn 42 [.ptr [I clo2_0] 0]),(3,.fn 17 [.ptr [I clo3_0] 0]),(8,.ra 1 0),(9,.ra 2 0),(10,I 0)] (bk 0 ?_)))))
 obtain ⟨⟨a0,a1,a2⟩,a3,h⟩ := Qel h
 have hL := K4b _ _ a3 c hc
 refine Wp.loopN (by kernel_rfl) (WpL.view (fun a w hv => SRx.renL [(27,54),(28,55),(29,56)] (SRx.nilBL 2 3 56 [I size0,.rs 54,.rs 55,.nils] (SRx.nilBL 2 2 55 [I size0,.rs 54,.nils,.nils] (SRx.nilBL 2 1 54 [I size0,.nils,.nils,.nils] hv (by kernel_rfl) (by kernel_rfl) (by kernel_rfl)) (by kernel_rfl) (by kernel_rfl) (by kernel_rfl)) (by kernel_rfl) (by kernel_rfl) (by kernel_rfl)) (by kernel_rfl) (by kernel_rfl) (by kernel_rfl)) (?_ : WpL _ c _ _ (mkS [(0,I size0),(1,.fn 41 [.ptr [I clo1_0] 0]),(2,.fn 42 [.ptr [I clo2_0] 0]),(3,.fn 17 [.ptr [I clo3_0] 0]),(8,.ra 1 0),(9,.ra 2 0),(10,I 0)] [(1,zS),(2,.box [I size0,.rs 27,.rs 28,.rs 29]),(27,.arr (List.map I [])),(28,.arr (List.map I [])),(29,.arr (List.map AV.bool []))])))
 refine wl hL ?_
 obtain rfl := os h
 exact Qdz (K2x hc 2 [9] [] [(1,.box [I size0,.rs 27,.rs 28,.rs 29]),(27,rI a0),(28,rI a1),(29,rM AV.bool a2)] (rt (rq [true])))
def K4f (p : Int × Int) : Option (K00) :=
 match p with
 | (n0,clo1_0) =>
  (K4c ((wr (n0 + 2)),(wr (n0 + 1)),(wr (n0 + 1)),clo1_0)) >>= fun a0 =>
  some a0
def K4g (p : Int × Int) (r : K00) : Prop :=
 match p with
 | (n0,clo1_0) => Q7a Tryd.prog 15 [I n0,.fn 17 [.ptr [I clo1_0] 0]] (K0s r) []
theorem K4h : ∀ p r,K4f p = some r → K4g p r := by
 rintro ⟨n0,clo1_0⟩ r h
 unfold K4f at h
 refine b0 Tryd.f15 B15 18 [(0,I n0),(1,.fn 17 [.ptr [I clo1_0] 0])] fun c hc => (rsd hc none [nW 1] [] [(4,.ra 1 0)] [(1,zS)] tv (rsd hc none [oN,oN,nW 2,oN] [] [(5,.ra 2 0)] [(1,zS),(2,.box [I (wr (n0 + 1))])] tv (K2z hc 2 [] [(6,.fn 41 [.ra 2 0])] (K2z hc 2 [5] [(7,.fn 42 [.ra 2 0])] ?_))))
 obtain ⟨a0,a1,h⟩ := Qel h
 obtain rfl := os h
 exact rs hc none (nN 5 [some (.call (K0s a0) [] 3),oN]) [(4,.ra 1 0)] [(1,.box [I a0.fSize,.rs 3,.rs 4,.rs 5]),(3,rI a0.fPlus),(4,rI a0.fTimes),(5,rM AV.bool a0.fBelow)] (ac (K4e _ _ a1) K1l (Or.inr (Qfn rfl (Qfn (Qfl Qfh a0.fPlus) (Qfn (Qfl Qfh a0.fTimes) (Qfn (Qfl Qfj a0.fBelow) rfl)))) : ([2,2] : List Nat) = [] ∨ noSh (K0s a0) = true) tv) (rt (rq [true]))
def K4i (n0 : Int) : Option (K00) :=
 (K38 (n0,1,14)) >>= fun a0 =>
 if a0 = true then
 (K4f (n0,n0)) >>= fun a1 =>
 some a1
 else
 some (K00.mk 0 [] [] [])
def K4j (n0 : Int) (r : K00) : Prop :=
 Q7a Tryd.prog 7 [I n0] (K0s r) []
theorem K4k : ∀ p r,K4i p = some r → K4j p r := by
 rintro n0 r h
 unfold K4i at h
 refine b0 Tryd.f7 B7 10 [(0,I n0)] fun c hc => (rs hc none [nW 1,nW 2] [(1,.ra 1 0),(2,.ra 2 0)] [(1,.box [I n0]),(2,zS)] tv (sN ?_))
 obtain ⟨a0,a1,h⟩ := Qel h
 refine K2y hc none [oN,oc (.bool a0),oN] [] [(5,.bool (!a0))] (cq (K3a _ _ a1) K1h tv) ?_
 rcases is h with ⟨a2,h⟩ | ⟨a2,h⟩
 ·refine cF (!a0) (nF a2) (sk ?_)
  obtain ⟨a3,a4,h⟩ := Qel h
  obtain rfl := os h
  exact rsd hc none [oN,oN,some (.call (K0s a3) [] 3),oN] [5,1] [] [(2,.box [I a3.fSize,.rs 3,.rs 4,.rs 5]),(3,rI a3.fPlus),(4,rI a3.fTimes),(5,rM AV.bool a3.fBelow)] (ac (K4h _ _ a4) K1m (Or.inr (Qfn rfl (Qfn (Qfl Qfh a3.fPlus) (Qfn (Qfl Qfh a3.fTimes) (Qfn (Qfl Qfj a3.fBelow) rfl)))) : ([1] : List Nat) = [] ∨ noSh (K0s a3) = true) tv) (rt (rq [true]))
 refine cT (!a0) (nT a2) ?_
 obtain rfl := os h
 exact K2x hc 2 [5,1] [] [(2,zS)] (rt (rq [true]))
def K4l (p : Int × Int) : Option (Int) :=
 match p with
 | (g0,cap0) =>
  if (g0 == 0) = true then
  some 0
  else
  some (wr ((wr (cap0 + 1)) - g0))
def K4m (p : Int × Int) (r : Int) : Prop :=
 match p with
 | (g0,cap0) => Q7a Tryd.prog 18 [I g0,.ptr [I cap0] 0] (I r) []
theorem K4n : ∀ p r,K4l p = some r → K4m p r := by
 rintro ⟨g0,cap0⟩ r h
 unfold K4l at h
 refine b0 Tryd.f18 B18 10 [(0,I g0),(1,.ptr [I cap0] 0)] fun c hc => (K2x hc 1 [] [] [] (sN (K2x hc 2 [] [(5,.bool (g0 == 0))] [] (ic h (fun a0 h => ?_) fun a0 h => ?_))))
 ·obtain rfl := os h
  exact rs0 hc 1 [(3,I 0)] [] (rt (rq [true]))
 obtain rfl := os h
 exact sk (rs0 hc 5 [(3,I (wr ((wr (cap0 + 1)) - g0)))] [] (rt (rq [true])))
def K4o (p : Int × Int × Int) : Option (Int) :=
 match p with
 | (a0,b1,cap0_f_0) =>
  (K4l (a0,cap0_f_0)) >>= fun a1 =>
  (K4l (b1,cap0_f_0)) >>= fun a2 =>
  (K4l ((mnx true a1 a2),cap0_f_0)) >>= fun a3 =>
  some a3
def K4p (p : Int × Int × Int) (r : Int) : Prop :=
 match p with
 | (a0,b1,cap0_f_0) => Q7a Tryd.prog 20 [I a0,I b1,.ptr [.fn 18 [.ptr [I cap0_f_0] 0]] 0] (I r) []
theorem K4q : ∀ p r,K4o p = some r → K4p p r := by
 rintro ⟨a0,b1,cap0_f_0⟩ r h
 unfold K4o at h
 refine b0 Tryd.f20 B20 15 [(0,I a0),(1,I b1),(2,.ptr [.fn 18 [.ptr [I cap0_f_0] 0]] 0)] fun c hc => (K2x hc 1 [] [] [] ?_)
 obtain ⟨a1,a2,a3,a4,a5,a6,h⟩ := bq3 h
 obtain rfl := os h
 exact rs hc K31 [oN,oN,oN,oc (I a1),oN,oN,oc (I a3),oN,oc (I a5),oN] [(5,I a5)] [] (cq (K4n _ _ a2) K1q (cq (K4n _ _ a4) K1q (cq (K4n _ _ a6) K1q tv))) (rt (rq [true]))
def K4r (p : Int × Int × Int) : Option (Int) :=
 match p with
 | (a0,b1,cap0_f_0) =>
  (K4l (a0,cap0_f_0)) >>= fun a1 =>
  (K4l (b1,cap0_f_0)) >>= fun a2 =>
  (K4l ((mnx false a1 a2),cap0_f_0)) >>= fun a3 =>
  some a3
def K4s (p : Int × Int × Int) (r : Int) : Prop :=
 match p with
 | (a0,b1,cap0_f_0) => Q7a Tryd.prog 21 [I a0,I b1,.ptr [.fn 18 [.ptr [I cap0_f_0] 0]] 0] (I r) []
theorem K4t : ∀ p r,K4r p = some r → K4s p r := by
 rintro ⟨a0,b1,cap0_f_0⟩ r h
 unfold K4r at h
 refine b0 Tryd.f21 B21 15 [(0,I a0),(1,I b1),(2,.ptr [.fn 18 [.ptr [I cap0_f_0] 0]] 0)] fun c hc => (K2x hc 1 [] [] [] ?_)
 obtain ⟨a1,a2,a3,a4,a5,a6,h⟩ := bq3 h
 obtain rfl := os h
 exact rs hc K31 [oN,oN,oN,oc (I a1),oN,oN,oc (I a3),oN,oc (I a5),oN] [(5,I a5)] [] (cq (K4n _ _ a2) K1q (cq (K4n _ _ a4) K1q (cq (K4n _ _ a6) K1q tv))) (rt (rq [true]))
def K4u (p : Int × Int × Int) : Option (Bool) :=
 match p with
 | (a0,b1,cap0_f_0) =>
  (K4l (a0,cap0_f_0)) >>= fun a1 =>
  (K4l (b1,cap0_f_0)) >>= fun a2 =>
  some (decide (a1 ≤ a2))
def K4v (p : Int × Int × Int) (r : Bool) : Prop :=
 match p with
 | (a0,b1,cap0_f_0) => Q7a Tryd.prog 22 [I a0,I b1,.ptr [.fn 18 [.ptr [I cap0_f_0] 0]] 0] (.bool r) []
theorem K4w : ∀ p r,K4u p = some r → K4v p r := by
 rintro ⟨a0,b1,cap0_f_0⟩ r h
 unfold K4u at h
 refine b0 Tryd.f22 B22 13 [(0,I a0),(1,I b1),(2,.ptr [.fn 18 [.ptr [I cap0_f_0] 0]] 0)] fun c hc => (K2x hc 1 [] [] [] ?_)
 obtain ⟨a1,a2,a3,a4,h⟩ := bq2 h
 obtain rfl := os h
 exact rs hc (rh [0,0,2,0,0,5,6,7]) [oN,oN,oc (I a1),oN,oN,oc (I a3),oN,oN] [(5,.bool (decide (a1 ≤ a3)))] [] (cq (K4n _ _ a2) K1q (cq (K4n _ _ a4) K1q tv)) (rt (rq [true]))
def K4x (c : Ctx) (size0 : Int) (clo1_0_f_0 : Int) (clo2_0_f_0 : Int) (clo3_0_f_0 : Int) (a0 : Int) : (List Int) × (List Int) × (List Bool) → Exit → Q0d → Prop
 | (a1,a2,a3) => Qe7 c (.exit 2) (mkS [(0,I size0),(1,.fn 20 [.ptr [.fn 18 [.ptr [I clo1_0_f_0] 0]] 0]),(2,.fn 21 [.ptr [.fn 18 [.ptr [I clo2_0_f_0] 0]] 0]),(3,.fn 22 [.ptr [.fn 18 [.ptr [I clo3_0_f_0] 0]] 0]),(8,.ra 1 0),(9,.ra 2 0),(10,I a0)] [(1,zS),(2,.box [I size0,.rs 27,.rs 28,.rs 29]),(27,rI a1),(28,rI a2),(29,rM AV.bool a3)])
def K4y (p : Int × Int × Int × Int × Int × (List Int) × (List Int) × (List Bool) × Int) : Option ((List Int) × (List Int) × (List Bool)) :=
 match p with
 | (size0,clo1_0_f_0,clo2_0_f_0,clo3_0_f_0,a0,a1,a2,a3,a4) =>
  if (decide (a4 < size0)) = true then
  (K4o (a0,a4,clo1_0_f_0)) >>= fun a5 =>
  (Qey (a1.length + [a5].length) 8) >>= fun _ =>
  (K4r (a0,a4,clo2_0_f_0)) >>= fun a6 =>
  (Qey (a2.length + [a6].length) 8) >>= fun _ =>
  (K4u (a0,a4,clo3_0_f_0)) >>= fun a7 =>
  (Qey (a3.length + [a7].length) 1) >>= fun _ =>
  K4y (size0,clo1_0_f_0,clo2_0_f_0,clo3_0_f_0,a0,(a1 ++ [a5]),(a2 ++ [a6]),(a3 ++ [a7]),(wr (a4 + 1)))
  else
  some ((a1,a2,a3))
 partial_fixpoint
def K4z (p : Int × Int × Int × Int × Int × (List Int) × (List Int) × (List Bool) × Int) (fl : (List Int) × (List Int) × (List Bool)) : Prop :=
 match p with
 | (size0,clo1_0_f_0,clo2_0_f_0,clo3_0_f_0,a0,a1,a2,a3,a4) => ∀ c : Ctx,c.nt = 52 → WpL Tryd.prog c (cl (cl (cr (cl (cl (cr (cl (cl (cr (cl (cr (cr B19)))))))))))) (K4x c size0 clo1_0_f_0 clo2_0_f_0 clo3_0_f_0 a0 fl) (mkS [(0,I size0),(1,.fn 20 [.ptr [.fn 18 [.ptr [I clo1_0_f_0] 0]] 0]),(2,.fn 21 [.ptr [.fn 18 [.ptr [I clo2_0_f_0] 0]] 0]),(3,.fn 22 [.ptr [.fn 18 [.ptr [I clo3_0_f_0] 0]] 0]),(8,.ra 1 0),(9,.ra 2 0),(10,I a0),(11,I a4)] [(1,zS),(2,.box [I size0,.rs 27,.rs 28,.rs 29]),(27,rI a1),(28,rI a2),(29,rM AV.bool a3)])
theorem K50 : ∀ p r,K4y p = some r → K4z p r := by
 refine K4y.partial_correctness K4z ?_
 rintro impl_tabled_Kimpl_LevelSystem_c2_Kimpl_LevelSystem_c3_Kimpl_LevelSystem_c4_l0_f impl_tabled_Kimpl_LevelSystem_c2_Kimpl_LevelSystem_c3_Kimpl_LevelSystem_c4_l0_ih ⟨size0,clo1_0_f_0,clo2_0_f_0,clo3_0_f_0,a0,a1,a2,a3,a4⟩ r h
 intro c hc
 refine WpL.step (sN (K2z hc 3 [] [(21,.bool (decide (a4 < size0)))] (ic h (fun a5 h => ?_) fun a5 h => ?_)))
 ·refine sk (sN (bk 3 ?_))
  obtain ⟨a6,a7,_,a8,a9,b1,_,b2,h⟩ := bq4 h
  obtain ⟨b3,b4,_,b5,h⟩ := bq2 h
  exact rgd hc K30 (nN 5 ([oc (I a6),mK 48,some (.eqv (.mk 49 true) ⟨[(31,.rs 49)],[(49,some (rI (a1 ++ [a6]))),(27,none),(48,none)],[49]⟩)]++nN 5 ([oc (I a9),mK 50,some (.eqv (.mk 51 true) ⟨[(39,.rs 51)],[(51,some (rI (a2 ++ [a9]))),(28,none),(50,none)],[51]⟩)]++nN 5 ([oc (.bool b3),mK 52,some (.eqv (.mk 53 true) ⟨[(47,.rs 53)],[(53,some (rM AV.bool (a3 ++ [b3]))),(29,none),(52,none)],[53]⟩)]++nN 6 [])))) [21] [] [(1,zS),(2,.box [I size0,.rs 49,.rs 51,.rs 53]),(49,rI (a1 ++ [a6])),(51,rI (a2 ++ [a9])),(53,rM AV.bool (a3 ++ [b3]))] (cq (K4q _ _ a7) K1r (ab (congrArg (fun z => (⟨[(31,.rs 49)],[(49,some (.arr z)),(27,none),(48,none)],[49]⟩ : Wr)) ((List.map_append).symm : (List.map I a1) ++ (List.map I [a6]) = List.map I (a1 ++ [a6]))) (Qez (enc1 := I) (enc2 := I) (e1 := a1) (e2 := [a6]) (sz := 1) Qf8 Qf8 a8) (cq (K4t _ _ b1) K1s (ab (congrArg (fun z => (⟨[(39,.rs 51)],[(51,some (.arr z)),(28,none),(50,none)],[51]⟩ : Wr)) ((List.map_append).symm : (List.map I a2) ++ (List.map I [a9]) = List.map I (a2 ++ [a9]))) (Qez (enc1 := I) (enc2 := I) (e1 := a2) (e2 := [a9]) (sz := 1) Qf8 Qf8 b2) (cq (K4w _ _ b4) K1t (ab (congrArg (fun z => (⟨[(47,.rs 53)],[(53,some (.arr z)),(29,none),(52,none)],[53]⟩ : Wr)) ((List.map_append).symm : (List.map AV.bool a3) ++ (List.map AV.bool [b3]) = List.map AV.bool (a3 ++ [b3]))) (Qez (enc1 := AV.bool) (enc2 := AV.bool) (e1 := a3) (e2 := [b3]) (sz := 1) Qfa Qfa b5) tv)))))) (K2s hc 3 [(0,I size0),(1,.fn 20 [.ptr [.fn 18 [.ptr [I clo1_0_f_0] 0]] 0]),(2,.fn 21 [.ptr [.fn 18 [.ptr [I clo2_0_f_0] 0]] 0]),(3,.fn 22 [.ptr [.fn 18 [.ptr [I clo3_0_f_0] 0]] 0]),(8,.ra 1 0),(9,.ra 2 0),(10,I a0),(11,I (wr (a4 + 1)))] (Qe3 (WpL.view (fun a w hv => SRx.renL [(27,49),(28,51),(29,53)] hv (by kernel_rfl) (by kernel_rfl) (by kernel_rfl)) (impl_tabled_Kimpl_LevelSystem_c2_Kimpl_LevelSystem_c3_Kimpl_LevelSystem_c4_l0_ih _ _ h c hc))))
 refine xt 2 (Qdx (Qe4 ?_))
 obtain ⟨rfl,hq0⟩ := Prod.mk.inj (os h)
 obtain ⟨rfl,rfl⟩ := Prod.mk.inj (hq0)
 exact iv []
def K51 (c : Ctx) (size0 : Int) : (List Int) × (List Int) × (List Bool) → Exit → Q0d → Prop
 | (a0,a1,a2) => Qe7 c (.exit 0) (mkS [(8,.ra 1 0),(9,.ra 2 0)] [(1,zS),(2,.box [I size0,.rs 27,.rs 28,.rs 29]),(27,rI a0),(28,rI a1),(29,rM AV.bool a2)])
def K52 (p : Int × Int × Int × Int × (List Int) × (List Int) × (List Bool) × Int) : Option ((List Int) × (List Int) × (List Bool)) :=
 match p with
 | (size0,clo1_0_f_0,clo2_0_f_0,clo3_0_f_0,a0,a1,a2,a3) =>
  if (decide (a3 < size0)) = true then
  (K4y (size0,clo1_0_f_0,clo2_0_f_0,clo3_0_f_0,a3,a0,a1,a2,0)) >>= fun (a4,a5,a6) =>
  K52 (size0,clo1_0_f_0,clo2_0_f_0,clo3_0_f_0,a4,a5,a6,(wr (a3 + 1)))
  else
  some ((a0,a1,a2))
 partial_fixpoint
def K53 (p : Int × Int × Int × Int × (List Int) × (List Int) × (List Bool) × Int) (fl : (List Int) × (List Int) × (List Bool)) : Prop :=
 match p with
 | (size0,clo1_0_f_0,clo2_0_f_0,clo3_0_f_0,a0,a1,a2,a3) => ∀ c : Ctx,c.nt = 52 → WpL Tryd.prog c (cl (cl (cr (cl (cr (cr B19)))))) (K51 c size0 fl) (mkS [(0,I size0),(1,.fn 20 [.ptr [.fn 18 [.ptr [I clo1_0_f_0] 0]] 0]),(2,.fn 21 [.ptr [.fn 18 [.ptr [I clo2_0_f_0] 0]] 0]),(3,.fn 22 [.ptr [.fn 18 [.ptr [I clo3_0_f_0] 0]] 0]),(8,.ra 1 0),(9,.ra 2 0),(10,I a3)] [(1,zS),(2,.box [I size0,.rs 27,.rs 28,.rs 29]),(27,rI a0),(28,rI a1),(29,rM AV.bool a2)])
theorem K54 : ∀ p r,K52 p = some r → K53 p r := by
 refine K52.partial_correctness K53 ?_
 rintro impl_tabled_Kimpl_LevelSystem_c2_Kimpl_LevelSystem_c3_Kimpl_LevelSystem_c4_l1_f impl_tabled_Kimpl_LevelSystem_c2_Kimpl_LevelSystem_c3_Kimpl_LevelSystem_c4_l1_ih ⟨size0,clo1_0_f_0,clo2_0_f_0,clo3_0_f_0,a0,a1,a2,a3⟩ r h
 intro c hc
 refine WpL.step (sN (K2z hc 3 [] [(16,.bool (decide (a3 < size0)))] (ic h (fun a4 h => ?_) fun a4 h => ?_)))
 ·refine sk (sN (bk 1 (K2w hc 1 [(0,I size0),(1,.fn 20 [.ptr [.fn 18 [.ptr [I clo1_0_f_0] 0]] 0]),(2,.fn 21 [.ptr [.fn 18 [.ptr [I clo2_0_f_0] 0]] 0]),(3,.fn 22 [.ptr [.fn 18 [.ptr [I clo3_0_f_0] 0]] 0]),(8,.ra 1 0),(9,.ra 2 0),(10,I a3),(11,I 0)] (bk 2 ?_))))
  obtain ⟨⟨a5,a6,a7⟩,a8,h⟩ := Qel h
  have hL := K50 _ _ a8 c hc
  exact lp (wl hL (Qdz (ri0 hc 3 (Qe3 (impl_tabled_Kimpl_LevelSystem_c2_Kimpl_LevelSystem_c3_Kimpl_LevelSystem_c4_l1_ih _ _ h c hc)))))
 refine xt 0 (Qdx (Qe4 ?_))
 obtain ⟨rfl,hq0⟩ := Prod.mk.inj (os h)
 obtain ⟨rfl,rfl⟩ := Prod.mk.inj (hq0)
 exact iv []
def K55 (p : Int × Int × Int × Int) : Option (K00) :=
 match p with
 | (size0,clo1_0_f_0,clo2_0_f_0,clo3_0_f_0) =>
  (K52 (size0,clo1_0_f_0,clo2_0_f_0,clo3_0_f_0,[],[],[],0)) >>= fun (a0,a1,a2) =>
  some (K00.mk size0 a0 a1 a2)
def K56 (p : Int × Int × Int × Int) (r : K00) : Prop :=
 match p with
 | (size0,clo1_0_f_0,clo2_0_f_0,clo3_0_f_0) => Q7a Tryd.prog 19 [I size0,.fn 20 [.ptr [.fn 18 [.ptr [I clo1_0_f_0] 0]] 0],.fn 21 [.ptr [.fn 18 [.ptr [I clo2_0_f_0] 0]] 0],.fn 22 [.ptr [.fn 18 [.ptr [I clo3_0_f_0] 0]] 0]] (K0s r) []
theorem K57 : ∀ p r,K55 p = some r → K56 p r := by
 rintro ⟨size0,clo1_0_f_0,clo2_0_f_0,clo3_0_f_0⟩ r h
 unfold K55 at h
 refine b0 Tryd.f19 B19 52 [(0,I size0),(1,.fn 20 [.ptr [.fn 18 [.ptr [I clo1_0_f_0] 0]] 0]),(2,.fn 21 [.ptr [.fn 18 [.ptr [I clo2_0_f_0] 0]] 0]),(3,.fn 22 [.ptr [.fn 18 [.ptr [I clo3_0_f_0] 0]] 0])] fun c hc => (rsd hc none [nW 1] [] [(8,.ra 1 0)] [(1,zS)] tv (rsd hc none [oN,oN,nW 2,oN] [] [(9,.ra 2 0)] [(1,zS),(2,.box [I size0,.nils,.nils,.nils])] tv (sN (K2w hc 1 [(0,I size0),(1,.fn 20 [.ptr [.fn 18 [.ptr [I clo1_0_f_0] 0]] 0]),(2,.fn 21 [.ptr [.fn 18 [.ptr [I clo2_0_f_0] 0]] 0]),(3,.fn 22 [.ptr [.fn 18 [.ptr [I clo3_0_f_0] 0]] 0]),(8,.ra 1 0),(9,.ra 2 0),(10,I 0)] (bk 0 ?_)))))
 obtain ⟨⟨a0,a1,a2⟩,a3,h⟩ := Qel h
 have hL := K54 _ _ a3 c hc
 refine Wp.loopN (by kernel_rfl) (WpL.view (fun a w hv => SRx.renL [(27,54),(28,55),(29,56)] (SRx.nilBL 2 3 56 [I size0,.rs 54,.rs 55,.nils] (SRx.nilBL 2 2 55 [I size0,.rs 54,.nils,.nils] (SRx.nilBL 2 1 54 [I size0,.nils,.nils,.nils] hv (by kernel_rfl) (by kernel_rfl) (by kernel_rfl)) (by kernel_rfl) (by kernel_rfl) (by kernel_rfl)) (by kernel_rfl) (by kernel_rfl) (by kernel_rfl)) (by kernel_rfl) (by kernel_rfl) (by kernel_rfl)) (?_ : WpL _ c _ _ (mkS [(0,I size0),(1,.fn 20 [.ptr [.fn 18 [.ptr [I clo1_0_f_0] 0]] 0]),(2,.fn 21 [.ptr [.fn 18 [.ptr [I clo2_0_f_0] 0]] 0]),(3,.fn 22 [.ptr [.fn 18 [.ptr [I clo3_0_f_0] 0]] 0]),(8,.ra 1 0),(9,.ra 2 0),(10,I 0)] [(1,zS),(2,.box [I size0,.rs 27,.rs 28,.rs 29]),(27,.arr (List.map I [])),(28,.arr (List.map I [])),(29,.arr (List.map AV.bool []))])))
 refine wl hL ?_
 obtain rfl := os h
 exact Qdz (K2x hc 2 [9] [] [(1,.box [I size0,.rs 27,.rs 28,.rs 29]),(27,rI a0),(28,rI a1),(29,rM AV.bool a2)] (rt (rq [true])))
def K58 : Option (List (List Nat)) := rx [[0],[0],[0],[0],[0,1,2,3],[0],[6],[0],[0],[0],[0],[0],[7,9,10,11],[13],[14],[15],[16],[16],[16],[16],[16,17,18,19],[16],[22],[16],[16],[16],[16],[16],[23,25,26,27],[29],[30],[31]]
def K59 : Option (List (List Nat)) := rx [[0],[0],[0],[0],[0],[0,2,3,4],[6],[0],[0],[0],[0],[7,8,9,10],[0],[0],[0],[7,8,9,10,11,12,13,14],[16],[17],[18],[19],[19],[19],[19],[19,20,21,22],[19],[25],[19],[19],[19],[19],[26,27,28,29],[19],[19],[19],[26,27,28,29,30,31,32,33],[35],[36],[37]]
def K5a : Option (List (List Nat)) := rx [[0],[0],[0],[3],[4],[5],[6],[6],[6],[6],[6,7,8,9],[6],[6],[6],[6,7,8,9,10,11,12,13],[15],[16],[17],[17],[17],[17],[17,18,19,20],[17],[17],[17],[17,18,19,20,21,22,23,24],[26],[27],[28],[29],[29],[29],[29],[29,30,31,32],[29],[29],[29],[29,30,31,32,33,34,35,36],[38],[39],[40],[41]]
def K5b : Option (List (List Nat)) := rx [[0],[0],[0,1],[0],[0,1,2,3],[0,1,2,3,4],[6],[7],[8],[9],[9],[9,10],[9],[9,10,11,12],[9,10,11,12,13],[15],[16],[17]]
def K5c (n0 : Int) : Option (K00) :=
 (K38 (n0,1,15)) >>= fun a0 =>
 if a0 = true then
 (K55 ((wr (n0 + 1)),n0,n0,n0)) >>= fun a1 =>
 some a1
 else
 some (K00.mk 0 [] [] [])
def K5d (n0 : Int) (r : K00) : Prop :=
 Q7a Tryd.prog 8 [I n0] (K0s r) []
theorem K5e : ∀ p r,K5c p = some r → K5d p r := by
 rintro n0 r h
 unfold K5c at h
 refine b0 Tryd.f8 B8 15 [(0,I n0)] fun c hc => (rs hc none [nW 1,nW 2] [(1,.ra 1 0),(2,.ra 2 0)] [(1,.box [I n0]),(2,zS)] tv (sN ?_))
 obtain ⟨a0,a1,h⟩ := Qel h
 refine K2y hc none [oN,oc (.bool a0),oN] [] [(6,.bool (!a0))] (cq (K3a _ _ a1) K1h tv) ?_
 rcases is h with ⟨a2,h⟩ | ⟨a2,h⟩
 ·refine cF (!a0) (nF a2) (sk (rs hc none [oN,nW 3,oN] [(1,.ra 1 0),(2,.ra 2 0),(3,.ra 3 0)] [(1,.box [I n0]),(2,zS),(3,.box [.fn 18 [.ra 1 0]])] tv (sN (vb 1 [I n0] [(1,.ptr [I n0] 0),(2,.ra 2 0),(3,.ra 3 0)] [(2,zS),(3,.box [.fn 18 [.ptr [I n0] 0]])] ?_))))
  obtain ⟨a3,a4,h⟩ := Qel h
  obtain rfl := os h
  exact rgd hc none (nN 5 [some (.call (K0s a3) [] 4),oN]) [1,3] [] [(2,.box [I a3.fSize,.rs 4,.rs 5,.rs 6]),(4,rI a3.fPlus),(5,rI a3.fTimes),(6,rM AV.bool a3.fBelow)] (ac (K57 _ _ a4) K1l (Or.inr (Qfn rfl (Qfn (Qfl Qfh a3.fPlus) (Qfn (Qfl Qfh a3.fTimes) (Qfn (Qfl Qfj a3.fBelow) rfl)))) : ([3,3,3] : List Nat) = [] ∨ noSh (K0s a3) = true) tv) (rt (rq [true]))
 refine cT (!a0) (nT a2) ?_
 obtain rfl := os h
 exact K2x hc 2 [6,1] [] [(2,zS)] (rt (rq [true]))
def K5f (p : K00 × Int) : Option (Bool) :=
 match p with
 | (s0,g1) =>
  (K38 (g1,0,(wr (s0.fSize - 1)))) >>= fun a0 =>
  some a0
def K5g (p : K00 × Int) (r : Bool) : Prop :=
 match p with
 | (s0,g1) => Q7a Tryd.prog 33 [K0n s0,I g1] (.bool r) []
theorem K5h : ∀ p r,K5f p = some r → K5g p r := by
 rintro ⟨s0,g1⟩ r h
 unfold K5f at h
 refine b0 Tryd.f33 B33 10 [(0,K0n s0),(1,I g1)] fun c hc => (rsd hc none [nW 1,oN] [0] [(2,.ra 1 0)] [(1,K0m s0)] tv ?_)
 obtain ⟨a0,a1,h⟩ := Qel h
 obtain rfl := os h
 exact rs hc none (nN 4 [oc (.bool a0),oN]) [(4,.bool a0)] [] (cq (K3a _ _ a1) K1h tv) (rt (rq [true]))
def K5i (p : K00 × Int × Int) : Option (Int) :=
 match p with
 | (s0,a1,b2) =>
  (idx s0.fPlus (wr ((wr (a1 * s0.fSize)) + b2))) >>= fun a0 =>
  some a0
def K5j (p : K00 × Int × Int) (r : Int) : Prop :=
 match p with
 | (s0,a1,b2) => Q7a Tryd.prog 28 [K0n s0,I a1,I b2] (I r) []
theorem K5k : ∀ p r,K5i p = some r → K5j p r := by
 rintro ⟨s0,a1,b2⟩ r h
 unfold K5i at h
 refine b0 Tryd.f28 B28 17 [(0,K0n s0),(1,I a1),(2,I b2)] fun c hc => (rsd hc none [nW 1,oN] [0] [(3,.ra 1 0)] [(1,K0m s0)] tv ?_)
 obtain ⟨a0,a2,h⟩ := Qel h
 obtain rfl := os h
 exact rs hc none (nN 8 [eL (I a0),oN,oN]) [(6,I a0)] [] (ai (ix a2) tv) (rt (rq [true]))
def K5l (p : K00 × Int × Int) : Option (Int) :=
 match p with
 | (s0,a1,b2) =>
  (idx s0.fTimes (wr ((wr (a1 * s0.fSize)) + b2))) >>= fun a0 =>
  some a0
def K5m (p : K00 × Int × Int) (r : Int) : Prop :=
 match p with
 | (s0,a1,b2) => Q7a Tryd.prog 30 [K0n s0,I a1,I b2] (I r) []
theorem K5n : ∀ p r,K5l p = some r → K5m p r := by
 rintro ⟨s0,a1,b2⟩ r h
 unfold K5l at h
 refine b0 Tryd.f30 B30 17 [(0,K0n s0),(1,I a1),(2,I b2)] fun c hc => (rsd hc none [nW 1,oN] [0] [(3,.ra 1 0)] [(1,K0m s0)] tv ?_)
 obtain ⟨a0,a2,h⟩ := Qel h
 obtain rfl := os h
 exact rs hc none (nN 8 [eL (I a0),oN,oN]) [(6,I a0)] [] (ai (ix a2) tv) (rt (rq [true]))
def K5o (p : K00 × Int × Int) : Option (Bool) :=
 match p with
 | (s0,a1,b2) =>
  (idx s0.fBelow (wr ((wr (a1 * s0.fSize)) + b2))) >>= fun a0 =>
  some a0
def K5p (p : K00 × Int × Int) (r : Bool) : Prop :=
 match p with
 | (s0,a1,b2) => Q7a Tryd.prog 32 [K0n s0,I a1,I b2] (.bool r) []
theorem K5q : ∀ p r,K5o p = some r → K5p p r := by
 rintro ⟨s0,a1,b2⟩ r h
 unfold K5o at h
 refine b0 Tryd.f32 B32 17 [(0,K0n s0),(1,I a1),(2,I b2)] fun c hc => (rsd hc none [nW 1,oN] [0] [(3,.ra 1 0)] [(1,K0m s0)] tv ?_)
 obtain ⟨a0,a2,h⟩ := Qel h
 obtain rfl := os h
 exact rs hc none (nN 8 [eB a0,oN,oN]) [(6,.bool a0)] [] (ai (xB a2) tv) (rt (rq [true]))
def K5r (c : Ctx) (s0 : K00) (a1 : Int) (b2 : Int) (a0 : Int) : Bool → Exit → Q0d → Prop
 | a2 => Qe7 c (.exit 2) (mkS [(1,I a1),(2,I b2),(3,.ra 1 0),(7,I a0),(8,.bool a2)] [(1,K0m s0)])
def K5s (p : K00 × Int × Int × Int × Bool × Int) : Option (Bool) :=
 match p with
 | (s0,a1,b2,a0,a2,a3) =>
  if (decide (a3 < s0.fSize)) = true then
  ((
  if a2 = true then
  (K5o (s0,a1,a3)) >>= fun a4 =>
  if a4 = true then
  (K5o (s0,b2,a3)) >>= fun a5 =>
  if a5 = true then
  (K5o (s0,a0,a3)) >>= fun a6 =>
  some (a6)
  else
  some (true)
  else
  some (true)
  else
  some (false)
  ) : Option (Bool)) >>= fun a7 =>
  K5s (s0,a1,b2,a0,a7,(wr (a3 + 1)))
  else
  some (a2)
 partial_fixpoint
def K5t (p : K00 × Int × Int × Int × Bool × Int) (fl : Bool) : Prop :=
 match p with
 | (s0,a1,b2,a0,a2,a3) => ∀ c : Ctx,c.nt = 57 → WpL Tryd.prog c (cl (cl (cr (cl (cr (cr (cl (cl (cr (cl (cl (cr (cl (cr B34)))))))))))))) (K5r c s0 a1 b2 a0 fl) (mkS [(1,I a1),(2,I b2),(3,.ra 1 0),(7,I a0),(8,.bool a2),(9,I a3)] [(1,K0m s0)])
theorem K5u : ∀ p r,K5s p = some r → K5t p r := by
 refine K5s.partial_correctness K5t ?_
 rintro impl_Systemjoin_l0_f impl_Systemjoin_l0_ih ⟨s0,a1,b2,a0,a2,a3⟩ r h
 intro c hc
 refine WpL.step (sN (K2z hc 4 [] [(31,.bool (decide (a3 < s0.fSize)))] (ic h (fun a4 h => ?_) fun a4 h => ?_)))
 ·refine sk (sN (bk 3 ?_))
  obtain ⟨a5,a6,h⟩ := Qel h
  refine wi [31,8] [(8,.bool a5)] ?_ ?_
  ·replace h := a6
   rcases is h with ⟨a7,h⟩ | ⟨a7,h⟩
   ·obtain ⟨a8,a9,h⟩ := Qel h
    rcases is h with ⟨b1,h⟩ | ⟨b1,h⟩
    ·obtain ⟨b3,b4,h⟩ := Qel h
     rcases is h with ⟨b5,h⟩ | ⟨b5,h⟩
     ·obtain ⟨b6,b7,h⟩ := Qel h
      obtain rfl := os h
      exact rj hc none (nN 5 ([oc (.bool a8)]++nN 5 ([oc (.bool b3),oN,oF]++nN 4 [oc (.bool b6),oF,oT,oN]))) (ar 4 a7 (cq (K5q _ _ a9) K1y (ar 2 a7 (ar 4 (nF b1) (cq (K5q _ _ b4) K1y (ad (nF b1) a7 (nF b1) a7 (ar 4 (nF b5) (cq (K5q _ _ b7) K1y (ac a7 (nF b5) a7 tv)))))))))
     obtain rfl := os h
     exact rj hc none (nN 5 ([oc (.bool a8)]++nN 5 ([oc (.bool b3),oN,oF,oN]++n_ 4 [oT,oT,oN]))) (ar 4 a7 (cq (K5q _ _ a9) K1y (ar 2 a7 (ar 4 (nF b1) (cq (K5q _ _ b4) K1y (ad (nF b1) a7 (nF b1) a7 (ar 4 (neF (nT b5)) (ac a7 (nT b5) a7 tv))))))))
    obtain rfl := os h
    exact rj hc none (nN 5 ([oc (.bool a8),oN,oN]++n_ 5 ([oT,oN]++n_ 4 [oT,oT,oN]))) (ar 4 a7 (cq (K5q _ _ a9) K1y (ar 2 a7 (ar 5 (neF (nT b1)) (ac a7 (nT b1) a7 (ar 4 nf (ac a7 tt a7 tv)))))))
   obtain rfl := os h
   exact rj hc none ([oN,oN]++n_ 18 [oF,oN]) (ar 9 (neT a7) (ai a7 tv))
  clear a6
  exact ri0 hc 3 (Qe3 (impl_Systemjoin_l0_ih _ _ h c hc))
 obtain rfl := os h
 exact xt 2 (Qdx (Qe4 (iv [])))
def K5v (c : Ctx) (s0 : K00) (a1 : Int) (b2 : Int) (a0 : Int) : (Unit) ⊕ (Int) → Exit → Q0d → Prop
 | .inl _ => Qe7 c .normal (mkS [(1,I a1),(2,I b2),(3,.ra 1 0),(7,I a0)] [(1,K0m s0)])
 | .inr r => Qeg TIx Tryd.f34 [] (I r)
def K5w (c : Ctx) : (Unit) ⊕ (Int) → Exit → Q0d → Prop
 | .inl _ => Qe7 c (.exit 0) (mkS [] [])
 | .inr r => Qeg TIx Tryd.f34 [] (I r)
def K5x (p : K00 × Int × Int × Int) : Option ((Unit) ⊕ (Int)) :=
 match p with
 | (s0,a1,b2,a0) =>
  if (decide (a0 < s0.fSize)) = true then
  ((
   ((
   (K5o (s0,a1,a0)) >>= fun a2 =>
   if a2 = true then
   (K5o (s0,b2,a0)) >>= fun a3 =>
   some ((!a3))
   else
   some (true)
   ) : Option (Bool)) >>= fun a4 =>
   if a4 = true then
   some (.inl ())
   else
   (K5s (s0,a1,b2,a0,true,0)) >>= fun a5 =>
   if a5 = true then
   some (.inr a0)
   else
   some (.inl ())) : Option ((Unit) ⊕ (Int))) >>= fun fl => match fl with
  | .inl () =>
   K5x (s0,a1,b2,(wr (a0 + 1)))
  | .inr r =>
   some (.inr r)
  else
  some (.inl ())
 partial_fixpoint
def K5y (p : K00 × Int × Int × Int) (fl : (Unit) ⊕ (Int)) : Prop :=
 match p with
 | (s0,a1,b2,a0) => ∀ c : Ctx,c.nt = 57 → WpL Tryd.prog c (cl (cl (cr (cl (cr B34))))) (K5w c fl) (mkS [(1,I a1),(2,I b2),(3,.ra 1 0),(7,I a0)] [(1,K0m s0)])
theorem K5z : ∀ p r,K5x p = some r → K5y p r := by
 refine K5x.partial_correctness K5y ?_
 rintro impl_Systemjoin_l1_f impl_Systemjoin_l1_ih ⟨s0,a1,b2,a0⟩ r h
 intro c hc
 refine WpL.step (sN (K2w hc 4 [(1,I a1),(2,I b2),(3,.ra 1 0),(7,I a0),(13,.bool (decide (a0 < s0.fSize)))] (ic h (fun a2 h => ?_) fun a2 h => ?_)))
 ·refine sk (sN ?_)
  obtain ⟨fl,a3,h⟩ := Qel h
  refine flw (K5v c s0 a1 b2 a0 fl) ?_ (fun hF => ?_)
  ·replace h := a3
   refine bk 1 (sN (sN ?_))
   obtain ⟨a4,a5,h⟩ := Qel h
   refine wi [13] [(27,.bool a4)] ?_ ?_
   ·replace h := a5
    obtain ⟨a6,a7,h⟩ := Qel h
    rcases is h with ⟨a8,h⟩ | ⟨a8,h⟩
    ·obtain ⟨a9,b1,h⟩ := Qel h
     obtain rfl := os h
     exact rj hc none ([oN,oN,oN,oc (.bool a6)]++nN 5 [oc (.bool a9),oN,oF]) (cq (K5q _ _ a7) K1y (ar 4 (nF a8) (cq (K5q _ _ b1) K1y (ar 2 (nF a8) tv))))
    obtain rfl := os h
    exact rj hc none ([oN,oN,oN,oc (.bool a6),oN,oN]++n_ 5 [oT]) (cq (K5q _ _ a7) K1y (ar 5 (neF (nT a8)) (ai (nT a8) tv)))
   clear a5
   refine ic h (fun b3 h => ?_) fun b3 h => ?_
   ·obtain rfl := os h
    exact xt 1 (Qdx (Qdz (iv [])))
   refine sk (K2z hc 1 [27] [(8,.bool true)] (sN (K2w hc 1 [(1,I a1),(2,I b2),(3,.ra 1 0),(7,I a0),(8,.bool true),(9,I 0)] (bk 2 ?_))))
   obtain ⟨b4,b5,h⟩ := Qel h
   have hL := K5u _ _ b5 c hc
   refine lp (wl hL (Qdz (K2z hc 1 [8] [(55,.bool b4)] (ic h (fun b6 h => ?_) fun b6 h => ?_))))
   ·obtain rfl := os h
    exact rs0 hc 2 [(6,I a0)] [] (rt (re [true]))
   obtain rfl := os h
   exact sk (iv [])
  rcases fl with ⟨⟩ | r
  ·exact wf hF (ri0 hc 3 (Qe3 (impl_Systemjoin_l1_ih _ _ h c hc)))
  refine Wp.mono hF ?_
  rintro _ _ ⟨rfl,hfin⟩
  obtain rfl := os h
  exact ⟨rfl,hfin⟩
 obtain rfl := os h
 exact xt 0 (Qdx (Qe4 (iv [])))
def K60 (p : K00 × Int × Int) : Option (Int) :=
 match p with
 | (s0,a1,b2) =>
  (K5x (s0,a1,b2,0)) >>= fun fl => match fl with
  | .inl () =>
   some (-1)
  | .inr r =>
   some r
def K61 (p : K00 × Int × Int) (r : Int) : Prop :=
 match p with
 | (s0,a1,b2) => Q7a Tryd.prog 34 [K0n s0,I a1,I b2] (I r) []
theorem K62 : ∀ p r,K60 p = some r → K61 p r := by
 rintro ⟨s0,a1,b2⟩ r h
 unfold K60 at h
 refine b0 Tryd.f34 B34 57 [(0,K0n s0),(1,I a1),(2,I b2)] fun c hc => (rsd hc none [nW 1,oN] [0] [(3,.ra 1 0)] [(1,K0m s0)] tv (sN (K2w hc 1 [(1,I a1),(2,I b2),(3,.ra 1 0),(7,I 0)] (bk 0 ?_))))
 obtain ⟨fl,a0,h⟩ := Qel h
 have hL := K5z _ _ a0 c hc
 refine lp ?_
 rcases fl with ⟨⟩ | r
 ·refine wl hL ?_
  obtain rfl := os h
  exact Qdz (rs0 hc 1 [(6,I (-1))] [] (rt (rq [true])))
 refine WpL.mono hL ?_
 rintro _ _ ⟨rfl,hfin⟩
 obtain rfl := os h
 exact ⟨.inl rfl,hfin⟩
def K63 (p : K00 × Int × Int × Int) : Option (Bool) :=
 match p with
 | (s0,a1,b2,c3) =>
  ((
  (K5i (s0,a1,b2)) >>= fun a0 =>
  (K5i (s0,a0,c3)) >>= fun a2 =>
  (K5i (s0,b2,c3)) >>= fun a3 =>
  (K5i (s0,a1,a3)) >>= fun a4 =>
  if (a2 != a4) = true then
  some (true)
  else
  (K5l (s0,a1,b2)) >>= fun a5 =>
  (K5l (s0,a5,c3)) >>= fun a6 =>
  (K5l (s0,b2,c3)) >>= fun a7 =>
  (K5l (s0,a1,a7)) >>= fun a8 =>
  some ((a6 != a8))
  ) : Option (Bool)) >>= fun a9 =>
  if a9 = true then
  some false
  else
  ((
  (K5i (s0,b2,c3)) >>= fun b1 =>
  (K5l (s0,a1,b1)) >>= fun b3 =>
  (K5l (s0,a1,b2)) >>= fun b4 =>
  (K5l (s0,a1,c3)) >>= fun b5 =>
  (K5i (s0,b4,b5)) >>= fun b6 =>
  if (b3 != b6) = true then
  some (true)
  else
  (K5i (s0,a1,b2)) >>= fun b7 =>
  (K5l (s0,b7,c3)) >>= fun b8 =>
  (K5l (s0,a1,c3)) >>= fun b9 =>
  (K5l (s0,b2,c3)) >>= fun c0 =>
  (K5i (s0,b9,c0)) >>= fun c1 =>
  some ((b8 != c1))
  ) : Option (Bool)) >>= fun c2 =>
  if c2 = true then
  some false
  else
  ((
  (K5o (s0,a1,b2)) >>= fun c4 =>
  if c4 = true then
  (K5o (s0,b2,c3)) >>= fun c5 =>
  if c5 = true then
  (K5o (s0,a1,c3)) >>= fun c6 =>
  some ((!c6))
  else
  some (false)
  else
  some (false)
  ) : Option (Bool)) >>= fun c7 =>
  if c7 = true then
  some false
  else
  ((
  (K5o (s0,a1,b2)) >>= fun c8 =>
  if c8 = true then
  (K5i (s0,a1,c3)) >>= fun c9 =>
  (K5i (s0,b2,c3)) >>= fun d0 =>
  (K5o (s0,c9,d0)) >>= fun d1 =>
  if d1 = true then
  (K5l (s0,a1,c3)) >>= fun d2 =>
  (K5l (s0,b2,c3)) >>= fun d3 =>
  (K5o (s0,d2,d3)) >>= fun d4 =>
  if d4 = true then
  (K5l (s0,c3,a1)) >>= fun d5 =>
  (K5l (s0,c3,b2)) >>= fun d6 =>
  (K5o (s0,d5,d6)) >>= fun d7 =>
  some (d7)
  else
  some (false)
  else
  some (false)
  else
  some (true)
  ) : Option (Bool)) >>= fun d8 =>
  some d8
def K64 (p : K00 × Int × Int × Int) (r : Bool) : Prop :=
 match p with
 | (s0,a1,b2,c3) => Q7a Tryd.prog 35 [K0n s0,I a1,I b2,I c3] (.bool r) []
theorem K65 : ∀ p r,K63 p = some r → K64 p r := by
 rintro ⟨s0,a1,b2,c3⟩ r h
 unfold K63 at h
 refine b0 Tryd.f35 B35 137 [(0,K0n s0),(1,I a1),(2,I b2),(3,I c3)] fun c hc => (rsd hc none [nW 1,oN] [0] [(4,.ra 1 0)] [(1,K0m s0)] tv (sN (sN ?_)))
 obtain ⟨a0,a2,h⟩ := Qel h
 refine wi [] [(40,.bool a0)] ?_ ?_
 ·replace h := a2
  obtain ⟨a3,a4,a5,a6,a7,a8,a9,b1,h⟩ := bq4 h
  rcases is h with ⟨b3,h⟩ | ⟨b3,h⟩
  ·obtain rfl := os h
   exact rj hc K58 (nN 4 ([oc (I a3),oN,oc (I a5)]++nN 5 ([oc (I a7),oc (I a9),oN,oN]++n_ 15 [oT]))) (cq (K5k _ _ a4) K1w (cq (K5k _ _ a6) K1w (cq (K5k _ _ a8) K1w (cq (K5k _ _ b1) K1w (ar 15 (neF b3) (ai b3 tv))))))
  obtain ⟨b4,b5,b6,b7,b8,b9,c0,c1,h⟩ := bq4 h
  obtain rfl := os h
  exact rj hc K58 (nN 4 ([oc (I a3),oN,oc (I a5)]++nN 5 ([oc (I a7),oc (I a9)]++nN 6 ([oc (I b4),oN,oc (I b6)]++nN 5 [oc (I b8),oc (I c0),oN,oF])))) (cq (K5k _ _ a4) K1w (cq (K5k _ _ a6) K1w (cq (K5k _ _ a8) K1w (cq (K5k _ _ b1) K1w (ar 5 b3 (cq (K5n _ _ b5) K1x (ar 2 b3 (cq (K5n _ _ b7) K1x (ar 6 b3 (cq (K5n _ _ b9) K1x (ai b3 (cq (K5n _ _ c1) K1x (ar 2 b3 tv)))))))))))))
 clear a2
 refine ic h (fun c2 h => ?_) fun c2 h => ?_
 ·obtain rfl := os h
  exact rs0 hc 1 [(8,.bool false)] [] (rt (rq [true]))
 refine sk (sN (sN ?_))
 obtain ⟨c4,c5,h⟩ := Qel h
 refine wi [40] [(78,.bool c4)] ?_ ?_
 ·replace h := c5
  obtain ⟨c6,c7,c8,c9,d0,d1,d2,d3,h⟩ := bq4 h
  obtain ⟨d4,d5,h⟩ := Qel h
  rcases is h with ⟨d6,h⟩ | ⟨d6,h⟩
  ·obtain rfl := os h
   exact rj hc K59 (nN 5 ([oc (I c6),oc (I c8)]++nN 4 ([oc (I d0),oN,oN,oN,oc (I d2),oc (I d4),oN,oN]++n_ 18 [oT]))) (cq (K5k _ _ c7) K1w (cq (K5n _ _ c9) K1x (cq (K5n _ _ d1) K1x (cq (K5n _ _ d3) K1x (cq (K5k _ _ d5) K1w (ar 18 (neF d6) (ai d6 tv)))))))
  obtain ⟨d7,d8,d9,e0,e1,e2,e3,e4,h⟩ := bq4 h
  obtain ⟨e5,e7,h⟩ := Qel h
  obtain rfl := os h
  exact rj hc K59 (nN 5 ([oc (I c6),oc (I c8)]++nN 4 ([oc (I d0),oN,oN,oN,oc (I d2),oc (I d4)]++nN 6 ([oc (I d7),oN,oc (I d9)]++nN 4 [oc (I e1),oN,oN,oN,oc (I e3),oc (I e5),oN,oF])))) (cq (K5k _ _ c7) K1w (cq (K5n _ _ c9) K1x (cq (K5n _ _ d1) K1x (cq (K5n _ _ d3) K1x (cq (K5k _ _ d5) K1w (ar 5 d6 (cq (K5k _ _ d8) K1w (ar 2 d6 (cq (K5n _ _ e0) K1x (ar 5 d6 (cq (K5n _ _ e2) K1x (ar 4 d6 (cq (K5n _ _ e4) K1x (ai d6 (cq (K5k _ _ e7) K1w (ar 2 d6 tv))))))))))))))))
 clear c5
 refine ic h (fun e8 h => ?_) fun e8 h => ?_
 ·obtain rfl := os h
  exact rs0 hc 1 [(8,.bool false)] [] (rt (rq [true]))
 refine sk (sN (sN ?_))
 obtain ⟨e9,f0,h⟩ := Qel h
 refine wi [78] [(95,.bool e9)] ?_ ?_
 ·replace h := f0
  obtain ⟨f1,f2,h⟩ := Qel h
  rcases is h with ⟨f3,h⟩ | ⟨f3,h⟩
  ·obtain ⟨f4,f5,h⟩ := Qel h
   rcases is h with ⟨f6,h⟩ | ⟨f6,h⟩
   ·obtain ⟨f7,f8,h⟩ := Qel h
    obtain rfl := os h
    exact rj hc none ([oN,oN,oN,oc (.bool f1)]++nN 4 ([oc (.bool f4),oT]++nN 4 [oc (.bool f7),oN,oT])) (cq (K5q _ _ f2) K1y (ar 4 f3 (cq (K5q _ _ f5) K1y (ai f3 (ar 4 f6 (cq (K5q _ _ f8) K1y (ar 2 f6 tv)))))))
   obtain rfl := os h
   exact rj hc none ([oN,oN,oN,oc (.bool f1)]++nN 4 ([oc (.bool f4),oT,oN]++n_ 5 [oF])) (cq (K5q _ _ f2) K1y (ar 4 f3 (cq (K5q _ _ f5) K1y (ai f3 (ar 5 (neT f6) (ai f6 tv))))))
  obtain rfl := os h
  exact rj hc none ([oN,oN,oN,oc (.bool f1),oN]++n_ 4 ([oF,oN]++n_ 5 [oF])) (cq (K5q _ _ f2) K1y (ar 4 (neT f3) (ai f3 (ar 5 (neT fF) (ai fF tv)))))
 clear f0
 refine ic h (fun f9 h => ?_) fun f9 h => ?_
 ·obtain rfl := os h
  exact rs0 hc 1 [(8,.bool false)] [] (rt (rq [true]))
 refine sk (sN ?_)
 obtain ⟨g0,g1,h⟩ := Qel h
 refine Wp.into (x := .normal) (mkS [(8,.bool g0)] []) ?_ ?_
 ·replace h := g1
  obtain ⟨g2,g3,h⟩ := Qel h
  rcases is h with ⟨g4,h⟩ | ⟨g4,h⟩
  ·obtain ⟨g5,g6,g7,g8,g9,i0,h⟩ := bq3 h
   rcases is h with ⟨i1,h⟩ | ⟨i1,h⟩
   ·obtain ⟨i2,i3,i4,i5,i6,i7,h⟩ := bq3 h
    rcases is h with ⟨i8,h⟩ | ⟨i8,h⟩
    ·obtain ⟨i9,j0,j8,j9,k0,k1,h⟩ := bq3 h
     obtain rfl := os h
     exact rj hc K5a ([oN,oN,oN,oc (.bool g2)]++nN 6 ([oc (I g5),oN,oN,oN,oc (I g7),oc (.bool g9)]++nN 5 ([oc (I i2),oN,oN,oN,oc (I i4),oc (.bool i6),oT]++nN 5 [oc (I i9),oN,oN,oN,oc (I j8),oc (.bool k0),oT,oF,oN]))) (cq (K5q _ _ g3) K1y (ar 5 (nF g4) (cq (K5k _ _ g6) K1w (ar 4 (nF g4) (cq (K5k _ _ g8) K1w (ai (nF g4) (cq (K5q _ _ i0) K1y (ai (nF g4) (ar 5 i1 (cq (K5n _ _ i3) K1x (ar 4 i1 (cq (K5n _ _ i5) K1x (ai i1 (cq (K5q _ _ i7) K1y (ac (nF g4) i1 (nF g4) (ar 5 i8 (cq (K5n _ _ j0) K1x (ar 4 i8 (cq (K5n _ _ j9) K1x (ai i8 (cq (K5q _ _ k1) K1y (ac (nF g4) i8 (nF g4) tv))))))))))))))))))))))
    obtain rfl := os h
    exact rj hc K5a ([oN,oN,oN,oc (.bool g2)]++nN 6 ([oc (I g5),oN,oN,oN,oc (I g7),oc (.bool g9)]++nN 5 ([oc (I i2),oN,oN,oN,oc (I i4),oc (.bool i6),oT,oN]++n_ 10 [oF,oF,oN]))) (cq (K5q _ _ g3) K1y (ar 5 (nF g4) (cq (K5k _ _ g6) K1w (ar 4 (nF g4) (cq (K5k _ _ g8) K1w (ai (nF g4) (cq (K5q _ _ i0) K1y (ai (nF g4) (ar 5 i1 (cq (K5n _ _ i3) K1x (ar 4 i1 (cq (K5n _ _ i5) K1x (ai i1 (cq (K5q _ _ i7) K1y (ac (nF g4) i1 (nF g4) (ar 10 (neT i8) (ac (nF g4) i8 (nF g4) tv)))))))))))))))))
   obtain rfl := os h
   exact rj hc K5a ([oN,oN,oN,oc (.bool g2)]++nN 6 ([oc (I g5),oN,oN,oN,oc (I g7),oc (.bool g9),oN]++n_ 10 ([oF,oN]++n_ 10 [oF,oF,oN]))) (cq (K5q _ _ g3) K1y (ar 5 (nF g4) (cq (K5k _ _ g6) K1w (ar 4 (nF g4) (cq (K5k _ _ g8) K1w (ai (nF g4) (cq (K5q _ _ i0) K1y (ai (nF g4) (ar 10 (neT i1) (ac (nF g4) i1 (nF g4) (ar 10 (neT fF) (ac (nF g4) fF (nF g4) tv))))))))))))
  obtain rfl := os h
  exact rj hc K5a ([oN,oN,oN,oc (.bool g2),oN,oN]++n_ 34 [oT,oN]) (cq (K5q _ _ g3) K1y (ar 14 (neF (nT g4)) (ai (nT g4) tv)))
 clear g1
 obtain rfl := os h
 exact rt (rq [true])
def K66 (c : Ctx) (s0 : K00) : (Unit) ⊕ (Bool) → Exit → Q0d → Prop
 | .inl _ => Qe7 c (.exit 0) (mkS [(1,.ra 1 0),(3,I s0.fSize)] [(1,K0m s0)])
 | .inr r => Qeg TIx Tryd.f10 [] (.bool r)
def K67 (p : K00 × Int) : Option ((Unit) ⊕ (Bool)) :=
 match p with
 | (s0,a0) =>
  if (decide (a0 < (s0.fPlus.length : Int))) = true then
  ((
  (idx s0.fPlus a0) >>= fun a1 =>
  (K5f (s0,a1)) >>= fun a2 =>
  if a2 = true then
  (idx s0.fTimes a0) >>= fun a3 =>
  (K5f (s0,a3)) >>= fun a4 =>
  some ((!a4))
  else
  some (true)
  ) : Option (Bool)) >>= fun a5 =>
  if a5 = true then
  some (.inr false)
  else
  K67 (s0,(wr (a0 + 1)))
  else
  some (.inl ())
 partial_fixpoint
def K68 (p : K00 × Int) (fl : (Unit) ⊕ (Bool)) : Prop :=
 match p with
 | (s0,a0) => ∀ c : Ctx,c.nt = 157 → WpL Tryd.prog c (cl (cl (cr (cl (cr (cr (cr B10))))))) (K66 c s0 fl) (mkS [(1,.ra 1 0),(3,I s0.fSize),(42,I (s0.fPlus.length : Int)),(43,I a0)] [(1,K0m s0)])
theorem K69 : ∀ p r,K67 p = some r → K68 p r := by
 refine K67.partial_correctness K68 ?_
 rintro impl_IsSystem_l0_f impl_IsSystem_l0_ih ⟨s0,a0⟩ r h
 intro c hc
 refine WpL.step (K2z hc 1 [] [(44,.bool (decide (a0 < (s0.fPlus.length : Int))))] (sN (ic h (fun a1 h => ?_) fun a1 h => ?_)))
 ·refine sk (sN (bk 1 (K2z hc 2 [44] [(4,I a0)] (sN ?_))))
  obtain ⟨a2,a3,h⟩ := Qel h
  refine wi [4] [(63,.bool a2)] ?_ ?_
  ·replace h := a3
   obtain ⟨a4,a5,a6,a7,h⟩ := bq2 h
   rcases is h with ⟨a8,h⟩ | ⟨a8,h⟩
   ·obtain ⟨a9,b1,b2,b3,h⟩ := bq2 h
    obtain rfl := os h
    exact rj hc K5b (nN 4 ([eL (I a4),oN,oc (.bool a6)]++nN 6 [eL (I a9),oN,oc (.bool b2),oN,oF])) (ai (ix a5) (cq (K5h _ _ a7) K1v (ar 5 (nF a8) (ai (ix b1) (ar 2 (nF a8) (cq (K5h _ _ b3) K1v (ar 2 (nF a8) tv)))))))
   obtain rfl := os h
   exact rj hc K5b (nN 4 ([eL (I a4),oN,oc (.bool a6),oN,oN]++n_ 8 [oT])) (ai (ix a5) (cq (K5h _ _ a7) K1v (ar 8 (neF (nT a8)) (ai (nT a8) tv))))
  clear a3
  refine ic h (fun b4 h => ?_) fun b4 h => ?_
  ·obtain rfl := os h
   exact rs0 hc 1 [(2,.bool false)] [] (rt (re [true]))
  exact sk (ri0 hc 2 (Qe3 (impl_IsSystem_l0_ih _ _ h c hc)))
 obtain rfl := os h
 exact xt 0 (Qdx (Qe4 (iv [])))
def K6a (c : Ctx) (s0 : K00) (a0 : Int) (a1 : Int) : (Unit) ⊕ (Bool) → Exit → Q0d → Prop
 | .inl _ => Qe7 c (.exit 6) (mkS [(1,.ra 1 0),(3,I s0.fSize),(5,I a0),(6,I a1)] [(1,K0m s0)])
 | .inr r => Qeg TIx Tryd.f10 [] (.bool r)
def K6b (p : K00 × Int × Int × Int) : Option ((Unit) ⊕ (Bool)) :=
 match p with
 | (s0,a0,a1,a2) =>
  if (decide (a2 < s0.fSize)) = true then
  (K63 (s0,a0,a1,a2)) >>= fun a3 =>
  if a3 = true then
  K6b (s0,a0,a1,(wr (a2 + 1)))
  else
  some (.inr false)
  else
  some (.inl ())
 partial_fixpoint
def K6c (p : K00 × Int × Int × Int) (fl : (Unit) ⊕ (Bool)) : Prop :=
 match p with
 | (s0,a0,a1,a2) => ∀ c : Ctx,c.nt = 157 → WpL Tryd.prog c (cl (cl (cr (cr (cl (cl (cr (cl (cl (cr (cr (cl (cl (cr (cl (cl (cr (cl (cr (cr (cr (cr B10)))))))))))))))))))))) (K6a c s0 a0 a1 fl) (mkS [(1,.ra 1 0),(3,I s0.fSize),(5,I a0),(6,I a1),(7,I a2)] [(1,K0m s0)])
theorem K6d : ∀ p r,K6b p = some r → K6c p r := by
 refine K6b.partial_correctness K6c ?_
 rintro impl_IsSystem_l1_f impl_IsSystem_l1_ih ⟨s0,a0,a1,a2⟩ r h
 intro c hc
 refine WpL.step (sN (K2z hc 3 [] [(148,.bool (decide (a2 < s0.fSize)))] (ic h (fun a3 h => ?_) fun a3 h => ?_)))
 ·refine sk (sN (bk 7 ?_))
  obtain ⟨a4,a5,h⟩ := Qel h
  refine K2y hc none (nN 4 [oc (.bool a4),oN]) [148] [(156,.bool (!a4))] (cq (K65 _ _ a5) K20 tv) ?_
  rcases is h with ⟨a6,h⟩ | ⟨a6,h⟩
  ·exact cF (!a4) (nF a6) (sk (ri0 hc 3 (Qe3 (impl_IsSystem_l1_ih _ _ h c hc))))
  refine cT (!a4) (nT a6) ?_
  obtain rfl := os h
  exact rs0 hc 1 [(2,.bool false)] [] (rt (re [true]))
 obtain rfl := os h
 exact xt 6 (Qdx (Qe4 (iv [])))
def K6e (c : Ctx) (s0 : K00) (a0 : Int) : (Unit) ⊕ (Bool) → Exit → Q0d → Prop
 | .inl _ => Qe7 c (.exit 4) (mkS [(1,.ra 1 0),(3,I s0.fSize),(5,I a0)] [(1,K0m s0)])
 | .inr r => Qeg TIx Tryd.f10 [] (.bool r)
def K6f : Option (List (List Nat)) := rh [0,0,0,3,0,0,0,7,8,9,10,10,12,13,14,14,14,17,18,19,20,20,20,23,24,25,26,27,27,27,30,31,32]
def K6g : Option (List (List Nat)) := rx [[0],[0],[0,1],[0,1,2],[4],[5],[6],[6],[6,7],[6,7,8],[10],[11]]
def K6h : Option (List (List Nat)) := rx [[0],[0],[0],[0],[0,2,3],[0,2,3,4],[0,2,3,4,5],[0],[0],[0,7,8],[0,7,8,9],[0,7,8,9,10],[0,1,2,3,4,5,6,7,8,9,10,11],[0],[0],[0],[0,14,15],[0,14,15,16],[0,14,15,16,17],[0],[0],[0,19,20],[0,19,20,21],[0,19,20,21,22],[0,1,2,3,4,5,6,7,8,9,10,11,12,13,14,15,16,17,18,19,20,21,22,23],[25],[26]]
def K6i (p : K00 × Int × Int) : Option ((Unit) ⊕ (Bool)) :=
 match p with
 | (s0,a0,a1) =>
  if (decide (a1 < s0.fSize)) = true then
  ((
  (K5i (s0,a0,a1)) >>= fun a2 =>
  (K5i (s0,a1,a0)) >>= fun a3 =>
  if (a2 != a3) = true then
   some (true)
  else
   if (a0 != a1) = true then
   (K5o (s0,a0,a1)) >>= fun a4 =>
   if a4 = true then
   (K5o (s0,a1,a0)) >>= fun a5 =>
   if a5 = true then
   some (true)
   else
   (K60 (s0,a0,a1)) >>= fun a6 =>
   some ((decide (a6 < 0)))
   else
   (K60 (s0,a0,a1)) >>= fun a6 =>
   some ((decide (a6 < 0)))
   else
   (K60 (s0,a0,a1)) >>= fun a6 =>
   some ((decide (a6 < 0)))
  ) : Option (Bool)) >>= fun a7 =>
  if a7 = true then
  some (.inr false)
  else
  (K6b (s0,a0,a1,0)) >>= fun fl => match fl with
  | .inl () =>
   K6i (s0,a0,(wr (a1 + 1)))
  | .inr r =>
   some (.inr r)
  else
  some (.inl ())
 partial_fixpoint
def K6j (p : K00 × Int × Int) (fl : (Unit) ⊕ (Bool)) : Prop :=
 match p with
 | (s0,a0,a1) => ∀ c : Ctx,c.nt = 157 → WpL Tryd.prog c (cl (cl (cr (cr (cl (cl (cr (cl (cl (cr (cl (cr (cr (cr (cr B10))))))))))))))) (K6e c s0 a0 fl) (mkS [(1,.ra 1 0),(3,I s0.fSize),(5,I a0),(6,I a1)] [(1,K0m s0)])
theorem K6k : ∀ p r,K6i p = some r → K6j p r := by
 refine K6i.partial_correctness K6j ?_
 rintro impl_IsSystem_l2_f impl_IsSystem_l2_ih ⟨s0,a0,a1⟩ r h
 intro c hc
 refine WpL.step (sN (K2z hc 3 [] [(110,.bool (decide (a1 < s0.fSize)))] (ic h (fun a2 h => ?_) fun a2 h => ?_)))
 ·refine sk (sN (bk 5 (sN (sN ?_))))
  obtain ⟨a3,a4,h⟩ := Qel h
  refine wi [110] [(145,.bool a3)] ?_ ?_
  ·replace h := a4
   obtain ⟨a5,a6,a7,a8,h⟩ := bq2 h
   rcases is h with ⟨a9,h⟩ | ⟨a9,h⟩
   ·obtain rfl := os h
    exact rj hc K6f ([oN,oN,oN,oc (I a5),oN,oN,oN,oc (I a7),oN,oN]++n_ 15 ([oT,oN]++n_ 5 [oT])) (cq (K5k _ _ a6) K1w (cq (K5k _ _ a8) K1w (ar 7 (neF a9) (ai a9 (ar 5 nf (ai tt tv))))))
   rcases is h with ⟨b1,h⟩ | ⟨b1,h⟩
   ·obtain ⟨b2,b3,h⟩ := Qel h
    rcases is h with ⟨b4,h⟩ | ⟨b4,h⟩
    ·obtain ⟨b5,b6,h⟩ := Qel h
     rcases is h with ⟨b7,h⟩ | ⟨b7,h⟩
     ·obtain rfl := os h
      exact rj hc K6f ([oN,oN,oN,oc (I a5),oN,oN,oN,oc (I a7)]++nN 9 ([oc (.bool b2),oT]++nN 4 ([oc (.bool b5),oT,oF,oN]++n_ 5 [oT]))) (cq (K5k _ _ a6) K1w (cq (K5k _ _ a8) K1w (ar 4 a9 (ar 4 b1 (cq (K5q _ _ b3) K1y (ac a9 b1 a9 (ar 4 b4 (cq (K5q _ _ b6) K1y (ac a9 b4 a9 (ar 5 (neF b7) (ai b7 tv)))))))))))
     obtain ⟨b8,b9,h⟩ := Qel h
     obtain rfl := os h
     exact rj hc K6f ([oN,oN,oN,oc (I a5),oN,oN,oN,oc (I a7)]++nN 9 ([oc (.bool b2),oT]++nN 4 ([oc (.bool b5),oT,oF]++nN 4 [oc (I b8),oN,oF]))) (cq (K5k _ _ a6) K1w (cq (K5k _ _ a8) K1w (ar 4 a9 (ar 4 b1 (cq (K5q _ _ b3) K1y (ac a9 b1 a9 (ar 4 b4 (cq (K5q _ _ b6) K1y (ac a9 b4 a9 (ar 4 b7 (cq (K62 _ _ b9) K1z (ar 2 b7 tv))))))))))))
    obtain ⟨b8,b9,h⟩ := Qel h
    obtain rfl := os h
    exact rj hc K6f ([oN,oN,oN,oc (I a5),oN,oN,oN,oc (I a7)]++nN 9 ([oc (.bool b2),oT,oN]++n_ 4 ([oF,oF]++nN 4 [oc (I b8),oN,oF]))) (cq (K5k _ _ a6) K1w (cq (K5k _ _ a8) K1w (ar 4 a9 (ar 4 b1 (cq (K5q _ _ b3) K1y (ac a9 b1 a9 (ar 4 (neT b4) (ac a9 b4 a9 (ar 4 fF (cq (K62 _ _ b9) K1z (ar 2 fF tv)))))))))))
   obtain ⟨b8,b9,h⟩ := Qel h
   obtain rfl := os h
   exact rj hc K6f ([oN,oN,oN,oc (I a5),oN,oN,oN,oc (I a7)]++nN 6 (n_ 4 ([oF,oN]++n_ 4 ([oF,oF]++nN 4 [oc (I b8),oN,oF])))) (cq (K5k _ _ a6) K1w (cq (K5k _ _ a8) K1w (ar 4 a9 (ar 4 (neT b1) (ac a9 b1 a9 (ar 4 (neT fF) (ac a9 fF a9 (ar 4 fF (cq (K62 _ _ b9) K1z (ar 2 fF tv))))))))))
  clear a4
  refine ic h (fun c0 h => ?_) fun c0 h => ?_
  ·obtain rfl := os h
   exact rs0 hc 1 [(2,.bool false)] [] (rt (re [true]))
  refine sk (K2w hc 1 [(1,.ra 1 0),(3,I s0.fSize),(5,I a0),(6,I a1),(7,I 0)] (bk 6 ?_))
  obtain ⟨fl,c1,h⟩ := Qel h
  have hL := K6d _ _ c1 c hc
  refine lp ?_
  rcases fl with ⟨⟩ | r
  ·exact wl hL (Qdz (ri0 hc 3 (Qe3 (impl_IsSystem_l2_ih _ _ h c hc))))
  refine WpL.mono hL ?_
  rintro _ _ ⟨rfl,hfin⟩
  obtain rfl := os h
  exact ⟨rfl,hfin⟩
 obtain rfl := os h
 exact xt 4 (Qdx (Qe4 (iv [])))
def K6l (c : Ctx) : (Unit) ⊕ (Bool) → Exit → Q0d → Prop
 | .inl _ => Qe7 c (.exit 2) (mkS [] [])
 | .inr r => Qeg TIx Tryd.f10 [] (.bool r)
def K6m (p : K00 × Int) : Option ((Unit) ⊕ (Bool)) :=
 match p with
 | (s0,a0) =>
  if (decide (a0 < s0.fSize)) = true then
  ((
  (K5i (s0,0,a0)) >>= fun a1 =>
  if (a1 != a0) = true then
   some (true)
  else
   (K5l (s0,1,a0)) >>= fun a2 =>
   if (a2 != a0) = true then
   some (true)
   else
   (K5l (s0,a0,1)) >>= fun a3 =>
   if (a3 != a0) = true then
   some (true)
   else
   (K5l (s0,0,a0)) >>= fun a4 =>
   if (a4 != 0) = true then
   some (true)
   else
   (K5l (s0,a0,0)) >>= fun a5 =>
   if (a5 != 0) = true then
   some (true)
   else
   (K5o (s0,a0,a0)) >>= fun a6 =>
   some ((!a6))
  ) : Option (Bool)) >>= fun a7 =>
  if a7 = true then
  some (.inr false)
  else
  (K6i (s0,a0,0)) >>= fun fl => match fl with
  | .inl () =>
   K6m (s0,(wr (a0 + 1)))
  | .inr r =>
   some (.inr r)
  else
  some (.inl ())
 partial_fixpoint
def K6n (p : K00 × Int) (fl : (Unit) ⊕ (Bool)) : Prop :=
 match p with
 | (s0,a0) => ∀ c : Ctx,c.nt = 157 → WpL Tryd.prog c (cl (cl (cr (cl (cr (cr (cr (cr B10)))))))) (K6l c fl) (mkS [(1,.ra 1 0),(3,I s0.fSize),(5,I a0)] [(1,K0m s0)])
theorem K6o : ∀ p r,K6m p = some r → K6n p r := by
 refine K6m.partial_correctness K6n ?_
 rintro impl_IsSystem_l3_f impl_IsSystem_l3_ih ⟨s0,a0⟩ r h
 intro c hc
 refine WpL.step (sN (K2z hc 3 [] [(67,.bool (decide (a0 < s0.fSize)))] (ic h (fun a1 h => ?_) fun a1 h => ?_)))
 ·refine sk (sN (bk 3 (sN (sN ?_))))
  obtain ⟨a2,a3,h⟩ := Qel h
  refine wi [67] [(107,.bool a2)] ?_ ?_
  ·replace h := a3
   obtain ⟨a4,a5,h⟩ := Qel h
   rcases is h with ⟨a6,h⟩ | ⟨a6,h⟩
   ·obtain rfl := os h
    exact rj hc none ([oN,oN,oc (I a4),oN,oN,oN]++n_ 5 ([oT,oN]++n_ 5 ([oT,oN]++n_ 4 ([oT,oN]++n_ 4 ([oT,oN]++n_ 5 [oT]))))) (cq (K5k _ _ a5) K1w (ar 5 (neF a6) (ai a6 (ar 5 nf (ai tt (ar 4 nf (ai tt (ar 4 nf (ai tt (ar 5 nf (ai tt tv)))))))))))
   obtain ⟨a7,a8,h⟩ := Qel h
   rcases is h with ⟨a9,h⟩ | ⟨a9,h⟩
   ·obtain rfl := os h
    exact rj hc none ([oN,oN,oc (I a4)]++nN 5 ([oc (I a7),oN,oN,oF,oN]++n_ 5 ([oT,oN]++n_ 4 ([oT,oN]++n_ 4 ([oT,oN]++n_ 5 [oT]))))) (cq (K5k _ _ a5) K1w (ar 3 a6 (cq (K5n _ _ a8) K1x (ar 3 a6 (ar 5 (neF a9) (ai a9 (ar 4 nf (ai tt (ar 4 nf (ai tt (ar 5 nf (ai tt tv))))))))))))
   obtain ⟨b1,b2,h⟩ := Qel h
   rcases is h with ⟨b3,h⟩ | ⟨b3,h⟩
   ·obtain rfl := os h
    exact rj hc none ([oN,oN,oc (I a4)]++nN 5 ([oc (I a7),oN,oN,oF,oN,oN,oN,oc (I b1),oN,oN,oF,oN]++n_ 4 ([oT,oN]++n_ 4 ([oT,oN]++n_ 5 [oT])))) (cq (K5k _ _ a5) K1w (ar 3 a6 (cq (K5n _ _ a8) K1x (ar 3 a6 (ar 3 a9 (cq (K5n _ _ b2) K1x (ar 3 a9 (ar 4 (neF b3) (ai b3 (ar 4 nf (ai tt (ar 5 nf (ai tt tv)))))))))))))
   obtain ⟨b4,b5,h⟩ := Qel h
   rcases is h with ⟨b6,h⟩ | ⟨b6,h⟩
   ·obtain rfl := os h
    exact rj hc none ([oN,oN,oc (I a4)]++nN 5 ([oc (I a7),oN,oN,oF,oN,oN,oN,oc (I b1),oN,oN,oF,oN,oN,oN,oc (I b4),oN,oF,oN]++n_ 4 ([oT,oN]++n_ 5 [oT]))) (cq (K5k _ _ a5) K1w (ar 3 a6 (cq (K5n _ _ a8) K1x (ar 3 a6 (ar 3 a9 (cq (K5n _ _ b2) K1x (ar 3 a9 (ar 3 b3 (cq (K5n _ _ b5) K1x (ar 2 b3 (ar 4 (neF b6) (ai b6 (ar 5 nf (ai tt tv))))))))))))))
   obtain ⟨b7,b8,h⟩ := Qel h
   rcases is h with ⟨b9,h⟩ | ⟨b9,h⟩
   ·obtain rfl := os h
    exact rj hc none ([oN,oN,oc (I a4)]++nN 5 ([oc (I a7),oN,oN,oF,oN,oN,oN,oc (I b1),oN,oN,oF,oN,oN,oN,oc (I b4),oN,oF,oN,oN,oN,oc (I b7),oN,oF,oN]++n_ 5 [oT])) (cq (K5k _ _ a5) K1w (ar 3 a6 (cq (K5n _ _ a8) K1x (ar 3 a6 (ar 3 a9 (cq (K5n _ _ b2) K1x (ar 3 a9 (ar 3 b3 (cq (K5n _ _ b5) K1x (ar 2 b3 (ar 3 b6 (cq (K5n _ _ b8) K1x (ar 2 b6 (ar 5 (neF b9) (ai b9 tv)))))))))))))))
   obtain ⟨c0,c1,h⟩ := Qel h
   obtain rfl := os h
   exact rj hc none ([oN,oN,oc (I a4)]++nN 5 ([oc (I a7),oN,oN,oF,oN,oN,oN,oc (I b1),oN,oN,oF,oN,oN,oN,oc (I b4),oN,oF,oN,oN,oN,oc (I b7),oN,oF]++nN 4 [oc (.bool c0),oN,oF])) (cq (K5k _ _ a5) K1w (ar 3 a6 (cq (K5n _ _ a8) K1x (ar 3 a6 (ar 3 a9 (cq (K5n _ _ b2) K1x (ar 3 a9 (ar 3 b3 (cq (K5n _ _ b5) K1x (ar 2 b3 (ar 3 b6 (cq (K5n _ _ b8) K1x (ar 2 b6 (ar 4 b9 (cq (K5q _ _ c1) K1y (ar 2 b9 tv))))))))))))))))
  clear a3
  refine ic h (fun c2 h => ?_) fun c2 h => ?_
  ·obtain rfl := os h
   exact rs0 hc 1 [(2,.bool false)] [] (rt (re [true]))
  refine sk (K2w hc 1 [(1,.ra 1 0),(3,I s0.fSize),(5,I a0),(6,I 0)] (bk 4 ?_))
  obtain ⟨fl,c3,h⟩ := Qel h
  have hL := K6k _ _ c3 c hc
  refine lp ?_
  rcases fl with ⟨⟩ | r
  ·exact wl hL (Qdz (ri0 hc 3 (Qe3 (impl_IsSystem_l3_ih _ _ h c hc))))
  refine WpL.mono hL ?_
  rintro _ _ ⟨rfl,hfin⟩
  obtain rfl := os h
  exact ⟨rfl,hfin⟩
 obtain rfl := os h
 exact xt 2 (Qdx (Qe4 (iv [])))
def K6p (s0 : K00) : Option (Bool) :=
 ((
 (K38 (s0.fSize,2,16)) >>= fun a0 =>
 if a0 = true then
  if ((s0.fPlus.length : Int) != (wr (s0.fSize * s0.fSize))) = true then
   some (true)
  else
   if ((s0.fTimes.length : Int) != (wr (s0.fSize * s0.fSize))) = true then
   some (true)
   else
   some (((s0.fBelow.length : Int) != (wr (s0.fSize * s0.fSize))))
 else
  some (true)
 ) : Option (Bool)) >>= fun a1 =>
 if a1 = true then
 some false
 else
 (K67 (s0,0)) >>= fun fl => match fl with
 | .inl () =>
  (K6m (s0,0)) >>= fun fl => match fl with
  | .inl () =>
   some true
  | .inr r =>
   some r
 | .inr r =>
  some r
def K6q (s0 : K00) (r : Bool) : Prop :=
 Q7a Tryd.prog 10 [K0n s0] (.bool r) []
theorem K6r : ∀ p r,K6p p = some r → K6q p r := by
 rintro s0 r h
 unfold K6p at h
 refine b0 Tryd.f10 B10 157 [(0,K0n s0)] fun c hc => (rs hc none [nW 1,oN] [(1,.ra 1 0)] [(1,K0m s0)] tv (K2z hc 3 [] [(3,I s0.fSize)] (sN (sN ?_))))
 obtain ⟨a0,a1,h⟩ := Qel h
 refine wi [] [(39,.bool a0)] ?_ ?_
 ·replace h := a1
  obtain ⟨a2,a3,h⟩ := Qel h
  rcases is h with ⟨a4,h⟩ | ⟨a4,h⟩
  ·rcases is h with ⟨a5,h⟩ | ⟨a5,h⟩
   ·obtain rfl := os h
    exact rj hc none ([oN,oc (.bool a2)]++nN 4 ([nQ ⟨[(16,I (s0.fPlus.length : Int))],[],[]⟩]++nN 4 ([oF,oN]++n_ 7 ([oT,oN]++n_ 7 [oT])))) (cq (K3a _ _ a3) K1h (ar 3 (nF a4) (ai (Qer (d := 16) I s0.fPlus) (ar 5 (nF a4) (ar 7 (neF a5) (ai a5 (ar 7 nf (ai tt tv))))))))
   rcases is h with ⟨a6,h⟩ | ⟨a6,h⟩
   ·obtain rfl := os h
    exact rj hc none ([oN,oc (.bool a2)]++nN 4 ([nQ ⟨[(16,I (s0.fPlus.length : Int))],[],[]⟩]++nN 4 ([oF,oN,oN,oN,nQ ⟨[(25,I (s0.fTimes.length : Int))],[],[]⟩]++nN 4 ([oF,oN]++n_ 7 [oT])))) (cq (K3a _ _ a3) K1h (ar 3 (nF a4) (ai (Qer (d := 16) I s0.fPlus) (ar 5 (nF a4) (ar 3 a5 (ai (Qer (d := 25) I s0.fTimes) (ar 5 a5 (ar 7 (neF a6) (ai a6 tv)))))))))
   obtain rfl := os h
   exact rj hc none ([oN,oc (.bool a2)]++nN 4 ([nQ ⟨[(16,I (s0.fPlus.length : Int))],[],[]⟩]++nN 4 ([oF,oN,oN,oN,nQ ⟨[(25,I (s0.fTimes.length : Int))],[],[]⟩]++nN 4 ([oF,oN,oN,oN,nQ ⟨[(34,I (s0.fBelow.length : Int))],[],[]⟩]++nN 4 [oF])))) (cq (K3a _ _ a3) K1h (ar 3 (nF a4) (ai (Qer (d := 16) I s0.fPlus) (ar 5 (nF a4) (ar 3 a5 (ai (Qer (d := 25) I s0.fTimes) (ar 5 a5 (ar 3 a6 (ai (Qer (d := 34) AV.bool s0.fBelow) (ar 5 a6 tv))))))))))
  obtain rfl := os h
  exact rj hc none ([oN,oc (.bool a2),oN,oN]++n_ 7 ([oT,oN]++n_ 7 ([oT,oN]++n_ 7 [oT]))) (cq (K3a _ _ a3) K1h (ar 7 (neF (nT a4)) (ai (nT a4) (ar 7 nf (ai tt (ar 7 nf (ai tt tv)))))))
 clear a1
 refine ic h (fun a7 h => ?_) fun a7 h => ?_
 ·obtain rfl := os h
  exact rs0 hc 1 [(2,.bool false)] [] (rt (rq [true]))
 refine sk (sN (rss hc none [oN,oN,nQ ⟨[(42,I (s0.fPlus.length : Int))],[],[]⟩,oN] [(1,.ra 1 0),(3,I s0.fSize),(42,I (s0.fPlus.length : Int)),(43,I 0)] (ai (Qer (d := 42) I s0.fPlus) tv) (bk 0 ?_)))
 obtain ⟨fl,a8,h⟩ := Qel h
 have hL := K69 _ _ a8 c hc
 refine lp ?_
 rcases fl with ⟨⟩ | r
 ·refine wl hL (Qdz (sN (K2w hc 1 [(1,.ra 1 0),(3,I s0.fSize),(5,I 0)] (bk 2 ?_))))
  obtain ⟨fl,a9,h⟩ := Qel h
  have hL := K6o _ _ a9 c hc
  refine lp ?_
  rcases fl with ⟨⟩ | r
  ·refine wl hL ?_
   obtain rfl := os h
   exact Qdz (rs0 hc 1 [(2,.bool true)] [] (rt (rq [true])))
  refine WpL.mono hL ?_
  rintro _ _ ⟨rfl,hfin⟩
  obtain rfl := os h
  exact ⟨.inl rfl,hfin⟩
 refine WpL.mono hL ?_
 rintro _ _ ⟨rfl,hfin⟩
 obtain rfl := os h
 exact ⟨.inl rfl,hfin⟩
def K6s (p : K00 × K00) : Option (Bool) :=
 match p with
 | (a0,b1) =>
  ((
  (K6p a0) >>= fun a1 =>
  if a1 = true then
  (K6p b1) >>= fun a2 =>
  if a2 = true then
  some ((decide ((wr (a0.fSize * b1.fSize)) ≤ 16)))
  else
  some (false)
  else
  some (false)
  ) : Option (Bool)) >>= fun a3 =>
  some a3
def K6t (p : K00 × K00) (r : Bool) : Prop :=
 match p with
 | (a0,b1) => Q7a Tryd.prog 23 [K0n a0,K0n b1] (.bool r) []
theorem K6u : ∀ p r,K6s p = some r → K6t p r := by
 rintro ⟨a0,b1⟩ r h
 unfold K6s at h
 refine b0 Tryd.f23 B23 19 [(0,K0n a0),(1,K0n b1)] fun c hc => (rs hc none [nW 1,nW 2,oN] [(2,.ra 1 0),(3,.ra 2 0)] [(1,K0m a0),(2,K0m b1)] tv (sN ?_))
 obtain ⟨a1,a2,h⟩ := Qel h
 refine Wp.into (x := .normal) (mkS [(4,.bool a1)] []) ?_ ?_
 ·replace h := a2
  obtain ⟨a3,a4,h⟩ := Qel h
  rcases is h with ⟨a5,h⟩ | ⟨a5,h⟩
  ·obtain ⟨a6,a7,h⟩ := Qel h
   rcases is h with ⟨a8,h⟩ | ⟨a8,h⟩
   ·obtain rfl := os h
    exact rj hc none ([oN,oc (.bool a3),oN,oN,oc (.bool a6),oT]++nN 7 [oT,oN]) (cq (K6r _ _ a4) K21 (ar 2 a5 (cq (K6r _ _ a7) K21 (ai a5 (ar 7 a8 tv)))))
   obtain rfl := os h
   exact rj hc none ([oN,oc (.bool a3),oN,oN,oc (.bool a6),oT,oN]++n_ 6 [oF,oN]) (cq (K6r _ _ a4) K21 (ar 2 a5 (cq (K6r _ _ a7) K21 (ai a5 (ar 6 (neT a8) (ai a8 tv))))))
  obtain rfl := os h
  exact rj hc none ([oN,oc (.bool a3),oN,o_,o_,oF,oN]++n_ 6 [oF,oN]) (cq (K6r _ _ a4) K21 (ar 2 (neT a5) (ai a5 (ar 6 (neT fF) (ai fF tv)))))
 clear a2
 obtain rfl := os h
 exact rt (rq [true])
def K6v (c : Ctx) (a0 : K00) (b1 : K00) (a1 : Int) : (List K01) → Exit → Q0d → Prop
 | a2 => Qe7 c (.exit 2) (mkS [(2,.ra 1 0),(3,.ra 2 0),(5,.rs 3),(6,I a1)] [(1,K0m a0),(2,K0m b1),(3,rM K05 a2)])
def K6w (p : K00 × K00 × Int × (List K01) × Int) : Option ((List K01)) :=
 match p with
 | (a0,b1,a1,a2,a3) =>
  if (decide (a3 < b1.fSize)) = true then
  ((
  (idx a2 0) >>= fun a4 =>
  if (a1 == a4.fa0 && a3 == a4.fa1) = true then
  some (false)
  else
  (idx a2 1) >>= fun a5 =>
  some ((!(a1 == a5.fa0 && a3 == a5.fa1)))
  ) : Option (Bool)) >>= fun a6 =>
  ((
  if a6 = true then
  (Qey (a2.length + [(K01.mk a1 a3)].length) 16) >>= fun _ =>
  some ((a2 ++ [(K01.mk a1 a3)]))
  else
  some (a2)
  ) : Option ((List K01))) >>= fun a7 =>
  K6w (a0,b1,a1,a7,(wr (a3 + 1)))
  else
  some (a2)
 partial_fixpoint
def K6x (p : K00 × K00 × Int × (List K01) × Int) (fl : (List K01)) : Prop :=
 match p with
 | (a0,b1,a1,a2,a3) => ∀ c : Ctx,c.nt = 44 → WpL Tryd.prog c (cl (cl (cr (cl (cl (cr (cl (cl (cr (cl (cr (cr B24)))))))))))) (K6v c a0 b1 a1 fl) (mkS [(2,.ra 1 0),(3,.ra 2 0),(5,.rs 3),(6,I a1),(7,I a3)] [(1,K0m a0),(2,K0m b1),(3,rM K05 a2)])
theorem K6y : ∀ p r,K6w p = some r → K6x p r := by
 refine K6w.partial_correctness K6x ?_
 rintro impl_pairs_l0_f impl_pairs_l0_ih ⟨a0,b1,a1,a2,a3⟩ r h
 intro c hc
 refine WpL.step (sN (K2z hc 4 [] [(21,.bool (decide (a3 < b1.fSize)))] (ic h (fun a4 h => ?_) fun a4 h => ?_)))
 ·refine sk (sN (bk 3 (rsd hc none [oN,oN,oN,nW 13,oN] [21] [(8,.ra 13 0)] [(1,K0m a0),(2,K0m b1),(3,rM K05 a2),(13,.box [I a1,I a3])] tv (sN ?_))))
  obtain ⟨a5,a6,h⟩ := Qel h
  refine wi [] [(38,.bool a5)] ?_ ?_
  ·replace h := a6
   obtain ⟨a7,a8,h⟩ := Qel h
   rcases is h with ⟨a9,h⟩ | ⟨a9,h⟩
   ·obtain rfl := os h
    exact rj hc K6g ([oN,oN,oN,eL (.agg [I a7.fa0,I a7.fa1]),oN,oN]++n_ 5 [oF]) (ac (Qeq (enc := K05) a8) (Qep (enc := K05) (x := .agg [I a7.fa0,I a7.fa1]) a8 (K08 a7)).2 (by kernel_rfl : Tryd.prog.eqGuardType Tryd.prog.depth 45 = false) (ar 5 (neT (nF a9)) (ai (nF a9) tv)))
   obtain ⟨b2,b3,h⟩ := Qel h
   obtain rfl := os h
   exact rj hc K6g ([oN,oN,oN,eL (.agg [I a7.fa0,I a7.fa1])]++nN 5 [eL (.agg [I b2.fa0,I b2.fa1]),oN,oT]) (ac (Qeq (enc := K05) a8) (Qep (enc := K05) (x := .agg [I a7.fa0,I a7.fa1]) a8 (K08 a7)).2 (by kernel_rfl : Tryd.prog.eqGuardType Tryd.prog.depth 45 = false) (ar 3 (nT a9) (ad (Qeq (enc := K05) b3) (nT a9) (Qep (enc := K05) (x := .agg [I b2.fa0,I b2.fa1]) b3 (K08 b2)).2 (nT a9) (ab (by kernel_rfl : Tryd.prog.eqGuardType Tryd.prog.depth 45 = false) (nT a9) tv))))
  clear a6
  obtain ⟨b4,b5,h⟩ := Qel h
  refine Wp.into (x := .normal) (mkS [(2,.ra 1 0),(3,.ra 2 0),(5,.rs 15),(6,I a1),(7,I a3)] [(1,K0m a0),(2,K0m b1),(15,rM K05 b4)]) ?_ ?_
  ·replace h := b5
   refine ic h (fun b6 h => ?_) fun b6 h => ?_
   ·obtain ⟨_,b7,h⟩ := Qel h
    obtain rfl := os h
    exact rj hc none [oN,oN,mK 14,some (.eqv (.mk 15 true) ⟨[(42,.rs 15)],[(15,some (rM K05 (a2 ++ [(K01.mk a1 a3)]))),(3,none),(14,none)],[15]⟩),oN] (ab (congrArg (fun z => (⟨[(42,.rs 15)],[(15,some (.arr z)),(3,none),(14,none)],[15]⟩ : Wr)) ((List.map_append).symm : (List.map K05 a2) ++ (List.map K05 [(K01.mk a1 a3)]) = List.map K05 (a2 ++ [(K01.mk a1 a3)]))) (Qez (enc1 := K05) (enc2 := K05) (e1 := a2) (e2 := [(K01.mk a1 a3)]) (sz := 2) K0a K0a b7) tv)
   obtain rfl := os h
   exact sk (iv [(15,3)])
  clear b5
  exact K2s hc 3 [(2,.ra 1 0),(3,.ra 2 0),(5,.rs 15),(6,I a1),(7,I (wr (a3 + 1)))] (Qe3 (WpL.view (fun a w hv => SRx.renL [(3,15)] hv (by kernel_rfl) (by kernel_rfl) (by kernel_rfl)) (impl_pairs_l0_ih _ _ h c hc)))
 obtain rfl := os h
 exact xt 2 (Qdx (Qe4 (iv [])))
def K6z (c : Ctx) : (List K01) → Exit → Q0d → Prop
 | a0 => Qe7 c (.exit 0) (mkS [(5,.rs 3)] [(3,rM K05 a0)])
def K70 (p : K00 × K00 × (List K01) × Int) : Option ((List K01)) :=
 match p with
 | (a0,b1,a1,a2) =>
  if (decide (a2 < a0.fSize)) = true then
  (K6w (a0,b1,a2,a1,0)) >>= fun a3 =>
  K70 (a0,b1,a3,(wr (a2 + 1)))
  else
  some (a1)
 partial_fixpoint
def K71 (p : K00 × K00 × (List K01) × Int) (fl : (List K01)) : Prop :=
 match p with
 | (a0,b1,a1,a2) => ∀ c : Ctx,c.nt = 44 → WpL Tryd.prog c (cl (cl (cr (cl (cr (cr B24)))))) (K6z c fl) (mkS [(2,.ra 1 0),(3,.ra 2 0),(5,.rs 3),(6,I a2)] [(1,K0m a0),(2,K0m b1),(3,rM K05 a1)])
theorem K72 : ∀ p r,K70 p = some r → K71 p r := by
 refine K70.partial_correctness K71 ?_
 rintro impl_pairs_l1_f impl_pairs_l1_ih ⟨a0,b1,a1,a2⟩ r h
 intro c hc
 refine WpL.step (sN (K2z hc 4 [] [(15,.bool (decide (a2 < a0.fSize)))] (ic h (fun a3 h => ?_) fun a3 h => ?_)))
 ·refine sk (sN (bk 1 (K2w hc 1 [(2,.ra 1 0),(3,.ra 2 0),(5,.rs 3),(6,I a2),(7,I 0)] (bk 2 ?_))))
  obtain ⟨a4,a5,h⟩ := Qel h
  have hL := K6y _ _ a5 c hc
  exact lp (wl hL (Qdz (ri0 hc 3 (Qe3 (impl_pairs_l1_ih _ _ h c hc)))))
 obtain rfl := os h
 exact xt 0 (Qdx (Qe4 (iv [])))
def K73 (p : K00 × K00) : Option ((List K01)) :=
 match p with
 | (a0,b1) =>
  (K70 (a0,b1,[(K01.mk 0 0),(K01.mk 1 1)],0)) >>= fun a1 =>
  some a1
def K74 (p : K00 × K00) (r : (List K01)) : Prop :=
 match p with
 | (a0,b1) => Q7a Tryd.prog 24 [K0n a0,K0n b1] (oM K05 r) []
theorem K75 : ∀ p r,K73 p = some r → K74 p r := by
 rintro ⟨a0,b1⟩ r h
 unfold K73 at h
 refine b0 Tryd.f24 B24 44 [(0,K0n a0),(1,K0n b1)] fun c hc => (rs hc none [nW 1,nW 2,oN] [(2,.ra 1 0),(3,.ra 2 0)] [(1,K0m a0),(2,K0m b1)] tv (rsd hc none [oN,oN,mK 3,oN] [] [(5,.rs 3)] [(1,K0m a0),(2,K0m b1),(3,.arr (List.map K05 [(K01.mk 0 0),(K01.mk 1 1)]))] tv (sN (K2w hc 1 [(2,.ra 1 0),(3,.ra 2 0),(5,.rs 3),(6,I 0)] (bk 0 ?_)))))
 obtain ⟨a1,a2,h⟩ := Qel h
 have hL := K72 _ _ a2 c hc
 refine lp (wl hL ?_)
 obtain rfl := os h
 exact Qdz (K2w hc 2 [(4,.rs 3)] (rt (rq [true])))
def K76 (c : Ctx) : (Unit) ⊕ (Int) → Exit → Q0d → Prop
 | .inl _ => Qe7 c (.exit 0) (mkS [] [])
 | .inr r => Qeg TIx Tryd.f26 [] (I r)
def K77 (p : (List K01) × K01 × Int) : Option ((Unit) ⊕ (Int)) :=
 match p with
 | (s0,v1,a0) =>
  if (decide (a0 < (s0.length : Int))) = true then
  (idx s0 a0) >>= fun a1 =>
  if (v1.fa0 == a1.fa0 && v1.fa1 == a1.fa1) = true then
  some (.inr a0)
  else
  K77 (s0,v1,(wr (a0 + 1)))
  else
  some (.inl ())
 partial_fixpoint
def K78 (p : (List K01) × K01 × Int) (fl : (Unit) ⊕ (Int)) : Prop :=
 match p with
 | (s0,v1,a0) => ∀ c : Ctx,c.nt = 19 → WpL Tryd.prog c (cl (cl (cr (cl (cr B26))))) (K76 c fl) (mkS [(0,sM K05 s0),(3,.ra 1 0),(7,I (s0.length : Int)),(8,I a0)] [(1,.box [I v1.fa0,I v1.fa1])])
theorem K79 : ∀ p r,K77 p = some r → K78 p r := by
 refine K77.partial_correctness K78 ?_
 rintro slices_Index_2int_l0_f slices_Index_2int_l0_ih ⟨s0,v1,a0⟩ r h
 intro c hc
 refine WpL.step (K2z hc 1 [] [(9,.bool (decide (a0 < (s0.length : Int))))] (sN (ic h (fun a1 h => ?_) fun a1 h => ?_)))
 ·refine sk (sN (bk 1 (K2z hc 2 [9] [(5,I a0)] ?_)))
  obtain ⟨a2,a3,h⟩ := Qel h
  refine K2y hc (rx [[0],[0],[0],[0,1,2],[0,1,2,3],[5]]) [oN,oN,oN,eL (.agg [I a2.fa0,I a2.fa1]),oN,oN] [] [(16,.bool (v1.fa0 == a2.fa0 && v1.fa1 == a2.fa1))] (ab (Qep (enc := K05) (x := .agg [I a2.fa0,I a2.fa1]) a3 (K08 a2)) (by kernel_rfl : Tryd.prog.eqGuardType Tryd.prog.depth 45 = false) tv) (ic h (fun a4 h => ?_) fun a4 h => ?_)
  ·obtain rfl := os h
   exact rs0 hc 2 [(4,I a0)] [] (rt (re [true]))
  exact sk (ri0 hc 2 (Qe3 (slices_Index_2int_l0_ih _ _ h c hc)))
 obtain rfl := os h
 exact xt 0 (Qdx (Qe4 (iv [])))
def K7a (p : (List K01) × K01) : Option (Int) :=
 match p with
 | (s0,v1) =>
  (K77 (s0,v1,0)) >>= fun fl => match fl with
  | .inl () =>
   some (-1)
  | .inr r =>
   some r
def K7b (p : (List K01) × K01) (r : Int) : Prop :=
 match p with
 | (s0,v1) => Q7a Tryd.prog 26 [sM K05 s0,.agg [I v1.fa0,I v1.fa1]] (I r) []
theorem K7c : ∀ p r,K7a p = some r → K7b p r := by
 rintro ⟨s0,v1⟩ r h
 unfold K7a at h
 refine b0 Tryd.f26 B26 19 [(0,sM K05 s0),(1,.agg [I v1.fa0,I v1.fa1])] fun c hc => (rsd hc none [nW 1,oN] [1] [(3,.ra 1 0)] [(1,.box [I v1.fa0,I v1.fa1])] tv (sN (rss hc none [oN,nQ ⟨[(7,I (s0.length : Int))],[],[]⟩,oN] [(0,sM K05 s0),(3,.ra 1 0),(7,I (s0.length : Int)),(8,I 0)] (ai (Qer (d := 7) K05 s0) tv) (bk 0 ?_))))
 obtain ⟨fl,a0,h⟩ := Qel h
 have hL := K79 _ _ a0 c hc
 refine lp ?_
 rcases fl with ⟨⟩ | r
 ·refine wl hL ?_
  obtain rfl := os h
  exact Qdz (rs0 hc 1 [(4,I (-1))] [] (rt (rq [true])))
 refine WpL.mono hL ?_
 rintro _ _ ⟨rfl,hfin⟩
 obtain rfl := os h
 exact ⟨.inl rfl,hfin⟩
def K7d (p : Int × Int × (List K01)) : Option (Int) :=
 match p with
 | (x0,y1,cap0) =>
  (K7a (cap0,(K01.mk x0 y1))) >>= fun a0 =>
  some a0
def K7e (p : Int × Int × (List K01)) (r : Int) : Prop :=
 match p with
 | (x0,y1,cap0) => Q7a Tryd.prog 25 [I x0,I y1,.ptr [sM K05 cap0] 0] (I r) []
theorem K7f : ∀ p r,K7d p = some r → K7e p r := by
 rintro ⟨x0,y1,cap0⟩ r h
 unfold K7d at h
 refine b0 Tryd.f25 B25 11 [(0,I x0),(1,I y1),(2,.ptr [sM K05 cap0] 0)] fun c hc => (K2x hc 1 [] [] [] ?_)
 obtain ⟨a0,a1,h⟩ := Qel h
 obtain rfl := os h
 exact rs hc none (nN 4 [oc (I a0),oN]) [(5,I a0)] [] (cq (K7c _ _ a1) K24 tv) (rt (rq [true]))
def K7g (p : Int × Int × (List K01) × K00 × (List K01) × K00) : Option (Int) :=
 match p with
 | (p0,q1,cap0_f_0,cap1,cap2,cap3) =>
  (idx cap2 p0) >>= fun a0 =>
  (idx cap2 q1) >>= fun a1 =>
  (K5i (cap1,a0.fa0,a1.fa0)) >>= fun a2 =>
  (idx cap2 p0) >>= fun a3 =>
  (idx cap2 q1) >>= fun a4 =>
  (K5i (cap3,a3.fa1,a4.fa1)) >>= fun a5 =>
  (K7d (a2,a5,cap0_f_0)) >>= fun a6 =>
  some a6
def K7h (p : Int × Int × (List K01) × K00 × (List K01) × K00) (r : Int) : Prop :=
 match p with
 | (p0,q1,cap0_f_0,cap1,cap2,cap3) => Q7a Tryd.prog 27 [I p0,I q1,.ptr [.fn 25 [.ptr [sM K05 cap0_f_0] 0]] 0,.ptr [I cap1.fSize,sI cap1.fPlus,sI cap1.fTimes,sB cap1.fBelow] 0,.ptr [sM K05 cap2] 0,.ptr [I cap3.fSize,sI cap3.fPlus,sI cap3.fTimes,sB cap3.fBelow] 0] (I r) []
theorem K7i : ∀ p r,K7g p = some r → K7h p r := by
 rintro ⟨p0,q1,cap0_f_0,cap1,cap2,cap3⟩ r h
 unfold K7g at h
 refine b0 Tryd.f27 B27 35 [(0,I p0),(1,I q1),(2,.ptr [.fn 25 [.ptr [sM K05 cap0_f_0] 0]] 0),(3,.ptr [I cap1.fSize,sI cap1.fPlus,sI cap1.fTimes,sB cap1.fBelow] 0),(4,.ptr [sM K05 cap2] 0),(5,.ptr [I cap3.fSize,sI cap3.fPlus,sI cap3.fTimes,sB cap3.fBelow] 0)] fun c hc => (K2x hc 1 [] [] [] ?_)
 obtain ⟨a0,a1,a2,a3,a4,a5,a6,a7,h⟩ := bq4 h
 obtain ⟨a8,a9,b1,b2,b3,b4,h⟩ := bq3 h
 obtain rfl := os h
 exact rs hc K6h (nN 4 ([eL (.agg [I a0.fa0,I a0.fa1])]++nN 4 ([eL (.agg [I a2.fa0,I a2.fa1]),oN,oN,oc (I a4),oN,oN,oN,eL (.agg [I a6.fa0,I a6.fa1])]++nN 4 [eL (.agg [I a8.fa0,I a8.fa1]),oN,oN,oc (I b1),oc (I b3),oN]))) [(8,I b3)] [] (ad (Qep (enc := K05) (x := .agg [I a0.fa0,I a0.fa1]) a1 (K08 a0)) ((by decide) : (0 : Int) ≤ 0 ∧ (0 : Int) < 2) (Qep (enc := K05) (x := .agg [I a2.fa0,I a2.fa1]) a3 (K08 a2)) ((by decide) : (0 : Int) ≤ 0 ∧ (0 : Int) < 2) (cq (K5k _ _ a5) K1w (ad (Qep (enc := K05) (x := .agg [I a6.fa0,I a6.fa1]) a7 (K08 a6)) ((by decide) : (0 : Int) ≤ 1 ∧ (1 : Int) < 2) (Qep (enc := K05) (x := .agg [I a8.fa0,I a8.fa1]) a9 (K08 a8)) ((by decide) : (0 : Int) ≤ 1 ∧ (1 : Int) < 2) (cq (K5k _ _ b2) K1w (cq (K7f _ _ b4) K25 tv))))) (rt (rq [true]))
def K7j (p : Int × Int × (List K01) × K00 × (List K01) × K00) : Option (Int) :=
 match p with
 | (p0,q1,cap0_f_0,cap1,cap2,cap3) =>
  (idx cap2 p0) >>= fun a0 =>
  (idx cap2 q1) >>= fun a1 =>
  (K5l (cap1,a0.fa0,a1.fa0)) >>= fun a2 =>
  (idx cap2 p0) >>= fun a3 =>
  (idx cap2 q1) >>= fun a4 =>
  (K5l (cap3,a3.fa1,a4.fa1)) >>= fun a5 =>
  (K7d (a2,a5,cap0_f_0)) >>= fun a6 =>
  some a6
def K7k (p : Int × Int × (List K01) × K00 × (List K01) × K00) (r : Int) : Prop :=
 match p with
 | (p0,q1,cap0_f_0,cap1,cap2,cap3) => Q7a Tryd.prog 29 [I p0,I q1,.ptr [.fn 25 [.ptr [sM K05 cap0_f_0] 0]] 0,.ptr [I cap1.fSize,sI cap1.fPlus,sI cap1.fTimes,sB cap1.fBelow] 0,.ptr [sM K05 cap2] 0,.ptr [I cap3.fSize,sI cap3.fPlus,sI cap3.fTimes,sB cap3.fBelow] 0] (I r) []
theorem K7l : ∀ p r,K7j p = some r → K7k p r := by
 rintro ⟨p0,q1,cap0_f_0,cap1,cap2,cap3⟩ r h
 unfold K7j at h
 refine b0 Tryd.f29 B29 35 [(0,I p0),(1,I q1),(2,.ptr [.fn 25 [.ptr [sM K05 cap0_f_0] 0]] 0),(3,.ptr [I cap1.fSize,sI cap1.fPlus,sI cap1.fTimes,sB cap1.fBelow] 0),(4,.ptr [sM K05 cap2] 0),(5,.ptr [I cap3.fSize,sI cap3.fPlus,sI cap3.fTimes,sB cap3.fBelow] 0)] fun c hc => (K2x hc 1 [] [] [] ?_)
 obtain ⟨a0,a1,a2,a3,a4,a5,a6,a7,h⟩ := bq4 h
 obtain ⟨a8,a9,b1,b2,b3,b4,h⟩ := bq3 h
 obtain rfl := os h
 exact rs hc K6h (nN 4 ([eL (.agg [I a0.fa0,I a0.fa1])]++nN 4 ([eL (.agg [I a2.fa0,I a2.fa1]),oN,oN,oc (I a4),oN,oN,oN,eL (.agg [I a6.fa0,I a6.fa1])]++nN 4 [eL (.agg [I a8.fa0,I a8.fa1]),oN,oN,oc (I b1),oc (I b3),oN]))) [(8,I b3)] [] (ad (Qep (enc := K05) (x := .agg [I a0.fa0,I a0.fa1]) a1 (K08 a0)) ((by decide) : (0 : Int) ≤ 0 ∧ (0 : Int) < 2) (Qep (enc := K05) (x := .agg [I a2.fa0,I a2.fa1]) a3 (K08 a2)) ((by decide) : (0 : Int) ≤ 0 ∧ (0 : Int) < 2) (cq (K5n _ _ a5) K1x (ad (Qep (enc := K05) (x := .agg [I a6.fa0,I a6.fa1]) a7 (K08 a6)) ((by decide) : (0 : Int) ≤ 1 ∧ (1 : Int) < 2) (Qep (enc := K05) (x := .agg [I a8.fa0,I a8.fa1]) a9 (K08 a8)) ((by decide) : (0 : Int) ≤ 1 ∧ (1 : Int) < 2) (cq (K5n _ _ b2) K1x (cq (K7f _ _ b4) K25 tv))))) (rt (rq [true]))
end Go.Am
