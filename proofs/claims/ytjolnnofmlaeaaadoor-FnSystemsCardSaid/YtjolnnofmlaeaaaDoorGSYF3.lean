/- Walks, printed. -/
import Derived.Test.YtjolnnofmlaeaaaDoorGSYF0
set_option linter.unusedVariables false
set_option linter.unusedSimpArgs false
set_option maxRecDepth 100000
namespace Go.Am
open Go Go.Proofs
def K7m : Option (List (List Nat)) := rx [[0],[0],[0],[0,1,2],[0,1,2,3],[0,1,2,3,4],[0],[0],[0,6,7],[0,6,7,8],[0,6,7,8,9],[11],[12],[13],[13],[13],[13,14,15],[13,14,15,16],[13,14,15,16,17],[13],[13],[13,19,20],[13,19,20,21],[13,19,20,21,22],[24],[25],[26]]
def K7n : Option (List (List Nat)) := rx [[0],[0],[2],[3],[0],[0],[0,4,5],[0,4,5,6],[8]]
def K7o (p : Int × Int × K00 × (List K01) × K00) : Option (Bool) :=
 match p with
 | (p0,q1,cap0,cap1,cap2) =>
  ((
  (idx cap1 p0) >>= fun a0 =>
  (idx cap1 q1) >>= fun a1 =>
  (K5o (cap0,a0.fa0,a1.fa0)) >>= fun a2 =>
  if a2 = true then
  (idx cap1 p0) >>= fun a3 =>
  (idx cap1 q1) >>= fun a4 =>
  (K5o (cap2,a3.fa1,a4.fa1)) >>= fun a5 =>
  some (a5)
  else
  some (false)
  ) : Option (Bool)) >>= fun a6 =>
  some a6
def K7p (p : Int × Int × K00 × (List K01) × K00) (r : Bool) : Prop :=
 match p with
 | (p0,q1,cap0,cap1,cap2) => Q7a Tryd.prog 31 [I p0,I q1,.ptr [I cap0.fSize,sI cap0.fPlus,sI cap0.fTimes,sB cap0.fBelow] 0,.ptr [sM K05 cap1] 0,.ptr [I cap2.fSize,sI cap2.fPlus,sI cap2.fTimes,sB cap2.fBelow] 0] (.bool r) []
theorem K7q : ∀ p r,K7o p = some r → K7p p r := by
 rintro ⟨p0,q1,cap0,cap1,cap2⟩ r h
 unfold K7o at h
 refine b0 Tryd.f31 B31 34 [(0,I p0),(1,I q1),(2,.ptr [I cap0.fSize,sI cap0.fPlus,sI cap0.fTimes,sB cap0.fBelow] 0),(3,.ptr [sM K05 cap1] 0),(4,.ptr [I cap2.fSize,sI cap2.fPlus,sI cap2.fTimes,sB cap2.fBelow] 0)] fun c hc => (K2x hc 1 [] [] [] (sN ?_))
 obtain ⟨a0,a1,h⟩ := Qel h
 refine Wp.into (x := .normal) (mkS [(7,.bool a0)] []) ?_ ?_
 ·replace h := a1
  obtain ⟨a2,a3,a4,a5,a6,a7,h⟩ := bq3 h
  rcases is h with ⟨a8,h⟩ | ⟨a8,h⟩
  ·obtain ⟨a9,b1,b2,b3,b4,b5,h⟩ := bq3 h
   obtain rfl := os h
   exact rj hc K7m ([oN,oN,oN,eL (.agg [I a2.fa0,I a2.fa1])]++nN 4 ([eL (.agg [I a4.fa0,I a4.fa1]),oN,oN,oc (.bool a6)]++nN 4 ([eL (.agg [I a9.fa0,I a9.fa1])]++nN 4 [eL (.agg [I b2.fa0,I b2.fa1]),oN,oN,oc (.bool b4),oT,oN]))) (ad (Qep (enc := K05) (x := .agg [I a2.fa0,I a2.fa1]) a3 (K08 a2)) ((by decide) : (0 : Int) ≤ 0 ∧ (0 : Int) < 2) (Qep (enc := K05) (x := .agg [I a4.fa0,I a4.fa1]) a5 (K08 a4)) ((by decide) : (0 : Int) ≤ 0 ∧ (0 : Int) < 2) (cq (K5q _ _ a7) K1y (ar 4 a8 (ac (Qep (enc := K05) (x := .agg [I a9.fa0,I a9.fa1]) b1 (K08 a9)) a8 ((by decide) : (0 : Int) ≤ 1 ∧ (1 : Int) < 2) (ar 4 a8 (ac (Qep (enc := K05) (x := .agg [I b2.fa0,I b2.fa1]) b3 (K08 b2)) a8 ((by decide) : (0 : Int) ≤ 1 ∧ (1 : Int) < 2) (ar 2 a8 (cq (K5q _ _ b5) K1y (ai a8 tv)))))))))
  obtain rfl := os h
  exact rj hc K7m ([oN,oN,oN,eL (.agg [I a2.fa0,I a2.fa1])]++nN 4 ([eL (.agg [I a4.fa0,I a4.fa1]),oN,oN,oc (.bool a6),oN]++n_ 12 [oF,oN])) (ad (Qep (enc := K05) (x := .agg [I a2.fa0,I a2.fa1]) a3 (K08 a2)) ((by decide) : (0 : Int) ≤ 0 ∧ (0 : Int) < 2) (Qep (enc := K05) (x := .agg [I a4.fa0,I a4.fa1]) a5 (K08 a4)) ((by decide) : (0 : Int) ≤ 0 ∧ (0 : Int) < 2) (cq (K5q _ _ a7) K1y (ar 12 (neT a8) (ai a8 tv))))
 clear a1
 obtain rfl := os h
 exact rt (rq [true])
def K7r (c : Ctx) (size0 : Int) (clo1_0_f_0 : List K01) (clo1_1 : K00) (clo1_2 : List K01) (clo1_3 : K00) (clo2_0_f_0 : List K01) (clo2_1 : K00) (clo2_2 : List K01) (clo2_3 : K00) (clo3_0 : K00) (clo3_1 : List K01) (clo3_2 : K00) (a0 : Int) : (List Int) × (List Int) × (List Bool) → Exit → Q0d → Prop
 | (a1,a2,a3) => Qe7 c (.exit 2) (mkS [(0,I size0),(1,.fn 27 [.ptr [.fn 25 [.ptr [sM K05 clo1_0_f_0] 0]] 0,.ptr [I clo1_1.fSize,sI clo1_1.fPlus,sI clo1_1.fTimes,sB clo1_1.fBelow] 0,.ptr [sM K05 clo1_2] 0,.ptr [I clo1_3.fSize,sI clo1_3.fPlus,sI clo1_3.fTimes,sB clo1_3.fBelow] 0]),(2,.fn 29 [.ptr [.fn 25 [.ptr [sM K05 clo2_0_f_0] 0]] 0,.ptr [I clo2_1.fSize,sI clo2_1.fPlus,sI clo2_1.fTimes,sB clo2_1.fBelow] 0,.ptr [sM K05 clo2_2] 0,.ptr [I clo2_3.fSize,sI clo2_3.fPlus,sI clo2_3.fTimes,sB clo2_3.fBelow] 0]),(3,.fn 31 [.ptr [I clo3_0.fSize,sI clo3_0.fPlus,sI clo3_0.fTimes,sB clo3_0.fBelow] 0,.ptr [sM K05 clo3_1] 0,.ptr [I clo3_2.fSize,sI clo3_2.fPlus,sI clo3_2.fTimes,sB clo3_2.fBelow] 0]),(8,.ra 1 0),(9,.ra 2 0),(10,I a0)] [(1,zS),(2,.box [I size0,.rs 27,.rs 28,.rs 29]),(27,rI a1),(28,rI a2),(29,rM AV.bool a3)])
def K7s (p : Int × (List K01) × K00 × (List K01) × K00 × (List K01) × K00 × (List K01) × K00 × K00 × (List K01) × K00 × Int × (List Int) × (List Int) × (List Bool) × Int) : Option ((List Int) × (List Int) × (List Bool)) :=
 match p with
 | (size0,clo1_0_f_0,clo1_1,clo1_2,clo1_3,clo2_0_f_0,clo2_1,clo2_2,clo2_3,clo3_0,clo3_1,clo3_2,a0,a1,a2,a3,a4) =>
  if (decide (a4 < size0)) = true then
  (K7g (a0,a4,clo1_0_f_0,clo1_1,clo1_2,clo1_3)) >>= fun a5 =>
  (Qey (a1.length + [a5].length) 8) >>= fun _ =>
  (K7j (a0,a4,clo2_0_f_0,clo2_1,clo2_2,clo2_3)) >>= fun a6 =>
  (Qey (a2.length + [a6].length) 8) >>= fun _ =>
  (K7o (a0,a4,clo3_0,clo3_1,clo3_2)) >>= fun a7 =>
  (Qey (a3.length + [a7].length) 1) >>= fun _ =>
  K7s (size0,clo1_0_f_0,clo1_1,clo1_2,clo1_3,clo2_0_f_0,clo2_1,clo2_2,clo2_3,clo3_0,clo3_1,clo3_2,a0,(a1 ++ [a5]),(a2 ++ [a6]),(a3 ++ [a7]),(wr (a4 + 1)))
  else
  some ((a1,a2,a3))
 partial_fixpoint
def K7t (p : Int × (List K01) × K00 × (List K01) × K00 × (List K01) × K00 × (List K01) × K00 × K00 × (List K01) × K00 × Int × (List Int) × (List Int) × (List Bool) × Int) (fl : (List Int) × (List Int) × (List Bool)) : Prop :=
 match p with
 | (size0,clo1_0_f_0,clo1_1,clo1_2,clo1_3,clo2_0_f_0,clo2_1,clo2_2,clo2_3,clo3_0,clo3_1,clo3_2,a0,a1,a2,a3,a4) => ∀ c : Ctx,c.nt = 52 → WpL Tryd.prog c (cl (cl (cr (cl (cl (cr (cl (cl (cr (cl (cr (cr B19)))))))))))) (K7r c size0 clo1_0_f_0 clo1_1 clo1_2 clo1_3 clo2_0_f_0 clo2_1 clo2_2 clo2_3 clo3_0 clo3_1 clo3_2 a0 fl) (mkS [(0,I size0),(1,.fn 27 [.ptr [.fn 25 [.ptr [sM K05 clo1_0_f_0] 0]] 0,.ptr [I clo1_1.fSize,sI clo1_1.fPlus,sI clo1_1.fTimes,sB clo1_1.fBelow] 0,.ptr [sM K05 clo1_2] 0,.ptr [I clo1_3.fSize,sI clo1_3.fPlus,sI clo1_3.fTimes,sB clo1_3.fBelow] 0]),(2,.fn 29 [.ptr [.fn 25 [.ptr [sM K05 clo2_0_f_0] 0]] 0,.ptr [I clo2_1.fSize,sI clo2_1.fPlus,sI clo2_1.fTimes,sB clo2_1.fBelow] 0,.ptr [sM K05 clo2_2] 0,.ptr [I clo2_3.fSize,sI clo2_3.fPlus,sI clo2_3.fTimes,sB clo2_3.fBelow] 0]),(3,.fn 31 [.ptr [I clo3_0.fSize,sI clo3_0.fPlus,sI clo3_0.fTimes,sB clo3_0.fBelow] 0,.ptr [sM K05 clo3_1] 0,.ptr [I clo3_2.fSize,sI clo3_2.fPlus,sI clo3_2.fTimes,sB clo3_2.fBelow] 0]),(8,.ra 1 0),(9,.ra 2 0),(10,I a0),(11,I a4)] [(1,zS),(2,.box [I size0,.rs 27,.rs 28,.rs 29]),(27,rI a1),(28,rI a2),(29,rM AV.bool a3)])
theorem K7u : ∀ p r,K7s p = some r → K7t p r := by
 refine K7s.partial_correctness K7t ?_
 rintro impl_tabled_Kimpl_ProductSystem_c2_Kimpl_ProductSystem_c3_Kimpl_ProductSystem_c4_l0_f impl_tabled_Kimpl_ProductSystem_c2_Kimpl_ProductSystem_c3_Kimpl_ProductSystem_c4_l0_ih ⟨size0,clo1_0_f_0,clo1_1,clo1_2,clo1_3,clo2_0_f_0,clo2_1,clo2_2,clo2_3,clo3_0,clo3_1,clo3_2,a0,a1,a2,a3,a4⟩ r h
 intro c hc
 refine WpL.step (sN (K2z hc 3 [] [(21,.bool (decide (a4 < size0)))] (ic h (fun a5 h => ?_) fun a5 h => ?_)))
 ·refine sk (sN (bk 3 ?_))
  obtain ⟨a6,a7,_,a8,a9,b1,_,b2,h⟩ := bq4 h
  obtain ⟨b3,b4,_,b5,h⟩ := bq2 h
  exact rgd hc (rx [[0],[1],[0],[0],[0],[0,2,3,4],[0,2,3,4,5],[7],[0],[0,8],[0],[0],[0],[8,10,11,12],[8,10,11,12,13],[15],[0],[0,16],[0],[0],[0],[16,18,19,20],[16,18,19,20,21],[23],[10,16,17],[25],[26],[27],[28],[29]]) (nN 5 ([oc (I a6),mK 48,some (.eqv (.mk 49 true) ⟨[(31,.rs 49)],[(49,some (rI (a1 ++ [a6]))),(27,none),(48,none)],[49]⟩)]++nN 5 ([oc (I a9),mK 50,some (.eqv (.mk 51 true) ⟨[(39,.rs 51)],[(51,some (rI (a2 ++ [a9]))),(28,none),(50,none)],[51]⟩)]++nN 5 ([oc (.bool b3),mK 52,some (.eqv (.mk 53 true) ⟨[(47,.rs 53)],[(53,some (rM AV.bool (a3 ++ [b3]))),(29,none),(52,none)],[53]⟩)]++nN 6 [])))) [21] [] [(1,zS),(2,.box [I size0,.rs 49,.rs 51,.rs 53]),(49,rI (a1 ++ [a6])),(51,rI (a2 ++ [a9])),(53,rM AV.bool (a3 ++ [b3]))] (cq (K7i _ _ a7) K26 (ab (congrArg (fun z => (⟨[(31,.rs 49)],[(49,some (.arr z)),(27,none),(48,none)],[49]⟩ : Wr)) ((List.map_append).symm : (List.map I a1) ++ (List.map I [a6]) = List.map I (a1 ++ [a6]))) (Qez (enc1 := I) (enc2 := I) (e1 := a1) (e2 := [a6]) (sz := 1) Qf8 Qf8 a8) (cq (K7l _ _ b1) K27 (ab (congrArg (fun z => (⟨[(39,.rs 51)],[(51,some (.arr z)),(28,none),(50,none)],[51]⟩ : Wr)) ((List.map_append).symm : (List.map I a2) ++ (List.map I [a9]) = List.map I (a2 ++ [a9]))) (Qez (enc1 := I) (enc2 := I) (e1 := a2) (e2 := [a9]) (sz := 1) Qf8 Qf8 b2) (cq (K7q _ _ b4) K28 (ab (congrArg (fun z => (⟨[(47,.rs 53)],[(53,some (.arr z)),(29,none),(52,none)],[53]⟩ : Wr)) ((List.map_append).symm : (List.map AV.bool a3) ++ (List.map AV.bool [b3]) = List.map AV.bool (a3 ++ [b3]))) (Qez (enc1 := AV.bool) (enc2 := AV.bool) (e1 := a3) (e2 := [b3]) (sz := 1) Qfa Qfa b5) tv)))))) (K2s hc 3 [(0,I size0),(1,.fn 27 [.ptr [.fn 25 [.ptr [sM K05 clo1_0_f_0] 0]] 0,.ptr [I clo1_1.fSize,sI clo1_1.fPlus,sI clo1_1.fTimes,sB clo1_1.fBelow] 0,.ptr [sM K05 clo1_2] 0,.ptr [I clo1_3.fSize,sI clo1_3.fPlus,sI clo1_3.fTimes,sB clo1_3.fBelow] 0]),(2,.fn 29 [.ptr [.fn 25 [.ptr [sM K05 clo2_0_f_0] 0]] 0,.ptr [I clo2_1.fSize,sI clo2_1.fPlus,sI clo2_1.fTimes,sB clo2_1.fBelow] 0,.ptr [sM K05 clo2_2] 0,.ptr [I clo2_3.fSize,sI clo2_3.fPlus,sI clo2_3.fTimes,sB clo2_3.fBelow] 0]),(3,.fn 31 [.ptr [I clo3_0.fSize,sI clo3_0.fPlus,sI clo3_0.fTimes,sB clo3_0.fBelow] 0,.ptr [sM K05 clo3_1] 0,.ptr [I clo3_2.fSize,sI clo3_2.fPlus,sI clo3_2.fTimes,sB clo3_2.fBelow] 0]),(8,.ra 1 0),(9,.ra 2 0),(10,I a0),(11,I (wr (a4 + 1)))] (Qe3 (WpL.view (fun a w hv => SRx.renL [(27,49),(28,51),(29,53)] hv (by kernel_rfl) (by kernel_rfl) (by kernel_rfl)) (impl_tabled_Kimpl_ProductSystem_c2_Kimpl_ProductSystem_c3_Kimpl_ProductSystem_c4_l0_ih _ _ h c hc))))
 refine xt 2 (Qdx (Qe4 ?_))
 obtain ⟨rfl,hq0⟩ := Prod.mk.inj (os h)
 obtain ⟨rfl,rfl⟩ := Prod.mk.inj (hq0)
 exact iv []
def K7v (c : Ctx) (size0 : Int) : (List Int) × (List Int) × (List Bool) → Exit → Q0d → Prop
 | (a0,a1,a2) => Qe7 c (.exit 0) (mkS [(8,.ra 1 0),(9,.ra 2 0)] [(1,zS),(2,.box [I size0,.rs 27,.rs 28,.rs 29]),(27,rI a0),(28,rI a1),(29,rM AV.bool a2)])
def K7w (p : Int × (List K01) × K00 × (List K01) × K00 × (List K01) × K00 × (List K01) × K00 × K00 × (List K01) × K00 × (List Int) × (List Int) × (List Bool) × Int) : Option ((List Int) × (List Int) × (List Bool)) :=
 match p with
 | (size0,clo1_0_f_0,clo1_1,clo1_2,clo1_3,clo2_0_f_0,clo2_1,clo2_2,clo2_3,clo3_0,clo3_1,clo3_2,a0,a1,a2,a3) =>
  if (decide (a3 < size0)) = true then
  (K7s (size0,clo1_0_f_0,clo1_1,clo1_2,clo1_3,clo2_0_f_0,clo2_1,clo2_2,clo2_3,clo3_0,clo3_1,clo3_2,a3,a0,a1,a2,0)) >>= fun (a4,a5,a6) =>
  K7w (size0,clo1_0_f_0,clo1_1,clo1_2,clo1_3,clo2_0_f_0,clo2_1,clo2_2,clo2_3,clo3_0,clo3_1,clo3_2,a4,a5,a6,(wr (a3 + 1)))
  else
  some ((a0,a1,a2))
 partial_fixpoint
def K7x (p : Int × (List K01) × K00 × (List K01) × K00 × (List K01) × K00 × (List K01) × K00 × K00 × (List K01) × K00 × (List Int) × (List Int) × (List Bool) × Int) (fl : (List Int) × (List Int) × (List Bool)) : Prop :=
 match p with
 | (size0,clo1_0_f_0,clo1_1,clo1_2,clo1_3,clo2_0_f_0,clo2_1,clo2_2,clo2_3,clo3_0,clo3_1,clo3_2,a0,a1,a2,a3) => ∀ c : Ctx,c.nt = 52 → WpL Tryd.prog c (cl (cl (cr (cl (cr (cr B19)))))) (K7v c size0 fl) (mkS [(0,I size0),(1,.fn 27 [.ptr [.fn 25 [.ptr [sM K05 clo1_0_f_0] 0]] 0,.ptr [I clo1_1.fSize,sI clo1_1.fPlus,sI clo1_1.fTimes,sB clo1_1.fBelow] 0,.ptr [sM K05 clo1_2] 0,.ptr [I clo1_3.fSize,sI clo1_3.fPlus,sI clo1_3.fTimes,sB clo1_3.fBelow] 0]),(2,.fn 29 [.ptr [.fn 25 [.ptr [sM K05 clo2_0_f_0] 0]] 0,.ptr [I clo2_1.fSize,sI clo2_1.fPlus,sI clo2_1.fTimes,sB clo2_1.fBelow] 0,.ptr [sM K05 clo2_2] 0,.ptr [I clo2_3.fSize,sI clo2_3.fPlus,sI clo2_3.fTimes,sB clo2_3.fBelow] 0]),(3,.fn 31 [.ptr [I clo3_0.fSize,sI clo3_0.fPlus,sI clo3_0.fTimes,sB clo3_0.fBelow] 0,.ptr [sM K05 clo3_1] 0,.ptr [I clo3_2.fSize,sI clo3_2.fPlus,sI clo3_2.fTimes,sB clo3_2.fBelow] 0]),(8,.ra 1 0),(9,.ra 2 0),(10,I a3)] [(1,zS),(2,.box [I size0,.rs 27,.rs 28,.rs 29]),(27,rI a0),(28,rI a1),(29,rM AV.bool a2)])
theorem K7y : ∀ p r,K7w p = some r → K7x p r := by
 refine K7w.partial_correctness K7x ?_
 rintro impl_tabled_Kimpl_ProductSystem_c2_Kimpl_ProductSystem_c3_Kimpl_ProductSystem_c4_l1_f impl_tabled_Kimpl_ProductSystem_c2_Kimpl_ProductSystem_c3_Kimpl_ProductSystem_c4_l1_ih ⟨size0,clo1_0_f_0,clo1_1,clo1_2,clo1_3,clo2_0_f_0,clo2_1,clo2_2,clo2_3,clo3_0,clo3_1,clo3_2,a0,a1,a2,a3⟩ r h
 intro c hc
 refine WpL.step (sN (K2z hc 3 [] [(16,.bool (decide (a3 < size0)))] (ic h (fun a4 h => ?_) fun a4 h => ?_)))
 ·refine sk (sN (bk 1 (K2w hc 1 [(0,I size0),(1,.fn 27 [.ptr [.fn 25 [.ptr [sM K05 clo1_0_f_0] 0]] 0,.ptr [I clo1_1.fSize,sI clo1_1.fPlus,sI clo1_1.fTimes,sB clo1_1.fBelow] 0,.ptr [sM K05 clo1_2] 0,.ptr [I clo1_3.fSize,sI clo1_3.fPlus,sI clo1_3.fTimes,sB clo1_3.fBelow] 0]),(2,.fn 29 [.ptr [.fn 25 [.ptr [sM K05 clo2_0_f_0] 0]] 0,.ptr [I clo2_1.fSize,sI clo2_1.fPlus,sI clo2_1.fTimes,sB clo2_1.fBelow] 0,.ptr [sM K05 clo2_2] 0,.ptr [I clo2_3.fSize,sI clo2_3.fPlus,sI clo2_3.fTimes,sB clo2_3.fBelow] 0]),(3,.fn 31 [.ptr [I clo3_0.fSize,sI clo3_0.fPlus,sI clo3_0.fTimes,sB clo3_0.fBelow] 0,.ptr [sM K05 clo3_1] 0,.ptr [I clo3_2.fSize,sI clo3_2.fPlus,sI clo3_2.fTimes,sB clo3_2.fBelow] 0]),(8,.ra 1 0),(9,.ra 2 0),(10,I a3),(11,I 0)] (bk 2 ?_))))
  obtain ⟨⟨a5,a6,a7⟩,a8,h⟩ := Qel h
  have hL := K7u _ _ a8 c hc
  exact lp (wl hL (Qdz (ri0 hc 3 (Qe3 (impl_tabled_Kimpl_ProductSystem_c2_Kimpl_ProductSystem_c3_Kimpl_ProductSystem_c4_l1_ih _ _ h c hc)))))
 refine xt 0 (Qdx (Qe4 ?_))
 obtain ⟨rfl,hq0⟩ := Prod.mk.inj (os h)
 obtain ⟨rfl,rfl⟩ := Prod.mk.inj (hq0)
 exact iv []
def K7z (p : Int × (List K01) × K00 × (List K01) × K00 × (List K01) × K00 × (List K01) × K00 × K00 × (List K01) × K00) : Option (K00) :=
 match p with
 | (size0,clo1_0_f_0,clo1_1,clo1_2,clo1_3,clo2_0_f_0,clo2_1,clo2_2,clo2_3,clo3_0,clo3_1,clo3_2) =>
  (K7w (size0,clo1_0_f_0,clo1_1,clo1_2,clo1_3,clo2_0_f_0,clo2_1,clo2_2,clo2_3,clo3_0,clo3_1,clo3_2,[],[],[],0)) >>= fun (a0,a1,a2) =>
  some (K00.mk size0 a0 a1 a2)
def K80 (p : Int × (List K01) × K00 × (List K01) × K00 × (List K01) × K00 × (List K01) × K00 × K00 × (List K01) × K00) (r : K00) : Prop :=
 match p with
 | (size0,clo1_0_f_0,clo1_1,clo1_2,clo1_3,clo2_0_f_0,clo2_1,clo2_2,clo2_3,clo3_0,clo3_1,clo3_2) => Q7a Tryd.prog 19 [I size0,.fn 27 [.ptr [.fn 25 [.ptr [sM K05 clo1_0_f_0] 0]] 0,.ptr [I clo1_1.fSize,sI clo1_1.fPlus,sI clo1_1.fTimes,sB clo1_1.fBelow] 0,.ptr [sM K05 clo1_2] 0,.ptr [I clo1_3.fSize,sI clo1_3.fPlus,sI clo1_3.fTimes,sB clo1_3.fBelow] 0],.fn 29 [.ptr [.fn 25 [.ptr [sM K05 clo2_0_f_0] 0]] 0,.ptr [I clo2_1.fSize,sI clo2_1.fPlus,sI clo2_1.fTimes,sB clo2_1.fBelow] 0,.ptr [sM K05 clo2_2] 0,.ptr [I clo2_3.fSize,sI clo2_3.fPlus,sI clo2_3.fTimes,sB clo2_3.fBelow] 0],.fn 31 [.ptr [I clo3_0.fSize,sI clo3_0.fPlus,sI clo3_0.fTimes,sB clo3_0.fBelow] 0,.ptr [sM K05 clo3_1] 0,.ptr [I clo3_2.fSize,sI clo3_2.fPlus,sI clo3_2.fTimes,sB clo3_2.fBelow] 0]] (K0s r) []
theorem K81 : ∀ p r,K7z p = some r → K80 p r := by
 rintro ⟨size0,clo1_0_f_0,clo1_1,clo1_2,clo1_3,clo2_0_f_0,clo2_1,clo2_2,clo2_3,clo3_0,clo3_1,clo3_2⟩ r h
 unfold K7z at h
 refine b0 Tryd.f19 B19 52 [(0,I size0),(1,.fn 27 [.ptr [.fn 25 [.ptr [sM K05 clo1_0_f_0] 0]] 0,.ptr [I clo1_1.fSize,sI clo1_1.fPlus,sI clo1_1.fTimes,sB clo1_1.fBelow] 0,.ptr [sM K05 clo1_2] 0,.ptr [I clo1_3.fSize,sI clo1_3.fPlus,sI clo1_3.fTimes,sB clo1_3.fBelow] 0]),(2,.fn 29 [.ptr [.fn 25 [.ptr [sM K05 clo2_0_f_0] 0]] 0,.ptr [I clo2_1.fSize,sI clo2_1.fPlus,sI clo2_1.fTimes,sB clo2_1.fBelow] 0,.ptr [sM K05 clo2_2] 0,.ptr [I clo2_3.fSize,sI clo2_3.fPlus,sI clo2_3.fTimes,sB clo2_3.fBelow] 0]),(3,.fn 31 [.ptr [I clo3_0.fSize,sI clo3_0.fPlus,sI clo3_0.fTimes,sB clo3_0.fBelow] 0,.ptr [sM K05 clo3_1] 0,.ptr [I clo3_2.fSize,sI clo3_2.fPlus,sI clo3_2.fTimes,sB clo3_2.fBelow] 0])] fun c hc => (rsd hc none [nW 1] [] [(8,.ra 1 0)] [(1,zS)] tv (rsd hc none [oN,oN,nW 2,oN] [] [(9,.ra 2 0)] [(1,zS),(2,.box [I size0,.nils,.nils,.nils])] tv (sN (K2w hc 1 [(0,I size0),(1,.fn 27 [.ptr [.fn 25 [.ptr [sM K05 clo1_0_f_0] 0]] 0,.ptr [I clo1_1.fSize,sI clo1_1.fPlus,sI clo1_1.fTimes,sB clo1_1.fBelow] 0,.ptr [sM K05 clo1_2] 0,.ptr [I clo1_3.fSize,sI clo1_3.fPlus,sI clo1_3.fTimes,sB clo1_3.fBelow] 0]),(2,.fn 29 [.ptr [.fn 25 [.ptr [sM K05 clo2_0_f_0] 0]] 0,.ptr [I clo2_1.fSize,sI clo2_1.fPlus,sI clo2_1.fTimes,sB clo2_1.fBelow] 0,.ptr [sM K05 clo2_2] 0,.ptr [I clo2_3.fSize,sI clo2_3.fPlus,sI clo2_3.fTimes,sB clo2_3.fBelow] 0]),(3,.fn 31 [.ptr [I clo3_0.fSize,sI clo3_0.fPlus,sI clo3_0.fTimes,sB clo3_0.fBelow] 0,.ptr [sM K05 clo3_1] 0,.ptr [I clo3_2.fSize,sI clo3_2.fPlus,sI clo3_2.fTimes,sB clo3_2.fBelow] 0]),(8,.ra 1 0),(9,.ra 2 0),(10,I 0)] (bk 0 ?_)))))
 obtain ⟨⟨a0,a1,a2⟩,a3,h⟩ := Qel h
 have hL := K7y _ _ a3 c hc
 refine Wp.loopN (by kernel_rfl) (WpL.view (fun a w hv => SRx.renL [(27,54),(28,55),(29,56)] (SRx.nilBL 2 3 56 [I size0,.rs 54,.rs 55,.nils] (SRx.nilBL 2 2 55 [I size0,.rs 54,.nils,.nils] (SRx.nilBL 2 1 54 [I size0,.nils,.nils,.nils] hv (by kernel_rfl) (by kernel_rfl) (by kernel_rfl)) (by kernel_rfl) (by kernel_rfl) (by kernel_rfl)) (by kernel_rfl) (by kernel_rfl) (by kernel_rfl)) (by kernel_rfl) (by kernel_rfl) (by kernel_rfl)) (?_ : WpL _ c _ _ (mkS [(0,I size0),(1,.fn 27 [.ptr [.fn 25 [.ptr [sM K05 clo1_0_f_0] 0]] 0,.ptr [I clo1_1.fSize,sI clo1_1.fPlus,sI clo1_1.fTimes,sB clo1_1.fBelow] 0,.ptr [sM K05 clo1_2] 0,.ptr [I clo1_3.fSize,sI clo1_3.fPlus,sI clo1_3.fTimes,sB clo1_3.fBelow] 0]),(2,.fn 29 [.ptr [.fn 25 [.ptr [sM K05 clo2_0_f_0] 0]] 0,.ptr [I clo2_1.fSize,sI clo2_1.fPlus,sI clo2_1.fTimes,sB clo2_1.fBelow] 0,.ptr [sM K05 clo2_2] 0,.ptr [I clo2_3.fSize,sI clo2_3.fPlus,sI clo2_3.fTimes,sB clo2_3.fBelow] 0]),(3,.fn 31 [.ptr [I clo3_0.fSize,sI clo3_0.fPlus,sI clo3_0.fTimes,sB clo3_0.fBelow] 0,.ptr [sM K05 clo3_1] 0,.ptr [I clo3_2.fSize,sI clo3_2.fPlus,sI clo3_2.fTimes,sB clo3_2.fBelow] 0]),(8,.ra 1 0),(9,.ra 2 0),(10,I 0)] [(1,zS),(2,.box [I size0,.rs 27,.rs 28,.rs 29]),(27,.arr (List.map I [])),(28,.arr (List.map I [])),(29,.arr (List.map AV.bool []))])))
 refine wl hL ?_
 obtain rfl := os h
 exact Qdz (K2x hc 2 [9] [] [(1,.box [I size0,.rs 27,.rs 28,.rs 29]),(27,rI a0),(28,rI a1),(29,rM AV.bool a2)] (rt (rq [true])))
def K82 (p : K00 × K00) : Option (K00 × Bool) :=
 match p with
 | (a0,b1) =>
  (K6s (a0,b1)) >>= fun a1 =>
  if a1 = true then
  (K73 (a0,b1)) >>= fun a2 =>
  (K7z ((a2.length : Int),a2,a0,a2,b1,a2,a0,a2,b1,a0,a2,b1)) >>= fun a3 =>
  some (a3,true)
  else
  some ((K00.mk 0 [] [] []),false)
def K83 (p : K00 × K00) (r : K00 × Bool) : Prop :=
 match p with
 | (a0,b1) => Q7a Tryd.prog 9 [K0n a0,K0n b1] (.tup [.agg [I r.1.fSize,.osl (List.map I r.1.fPlus),.osl (List.map I r.1.fTimes),.osl (List.map AV.bool r.1.fBelow)],.bool r.2]) []
theorem K84 : ∀ p r,K82 p = some r → K83 p r := by
 rintro ⟨a0,b1⟩ r h
 unfold K82 at h
 refine b0 Tryd.f9 B9 29 [(0,K0n a0),(1,K0n b1)] fun c hc => (rs hc none [nW 1,nW 2,nW 3,oN] [(2,.ra 1 0),(3,.ra 2 0),(4,.ra 3 0)] [(1,K0m a0),(2,K0m b1),(3,zS)] tv (sN ?_))
 obtain ⟨a1,a2,h⟩ := Qel h
 refine K2y hc none [oN,oN,oc (.bool a1),oN] [] [(14,.bool (!a1))] (cq (K6u _ _ a2) K22 tv) ?_
 rcases is h with ⟨a3,h⟩ | ⟨a3,h⟩
 ·refine cF (!a1) (nF a3) (sk ?_)
  obtain ⟨a4,a5,h⟩ := Qel h
  refine rsd hc none [oN,oN,some (.call (oM K05 a4) [] 4),nW 5,oN] [14] [(6,.ra 5 0)] [(1,K0m a0),(2,K0m b1),(3,zS),(4,rM K05 a4),(5,.box [.rs 4])] (cq (K75 _ _ a5) K23 tv) (rsd hc none [oN,nW 6,oN] [] [(7,.ra 6 0)] [(1,K0m a0),(2,K0m b1),(3,zS),(4,rM K05 a4),(5,.box [.rs 4]),(6,.box [.fn 25 [.ra 5 0]])] tv (K2z hc 2 [] [(8,.fn 27 [.ra 6 0,.ra 1 0,.ra 5 0,.ra 2 0])] (K2z hc 2 [7] [(9,.fn 29 [.ra 6 0,.ra 1 0,.ra 5 0,.ra 2 0])] (K2w hc 2 [(4,.ra 3 0),(6,.ra 5 0),(8,.fn 27 [.ra 6 0,.ra 1 0,.ra 5 0,.ra 2 0]),(9,.fn 29 [.ra 6 0,.ra 1 0,.ra 5 0,.ra 2 0]),(10,.fn 31 [.ra 1 0,.ra 5 0,.ra 2 0])] (sN (vz 4 (K0b a4) [(4,.ra 3 0),(6,.ra 5 0),(8,.fn 27 [.ra 6 0,.ra 1 0,.ra 5 0,.ra 2 0]),(9,.fn 29 [.ra 6 0,.ra 1 0,.ra 5 0,.ra 2 0]),(10,.fn 31 [.ra 1 0,.ra 5 0,.ra 2 0])] [(1,K0m a0),(2,K0m b1),(3,zS),(5,.box [sM K05 a4]),(6,.box [.fn 25 [.ra 5 0]])] (vb 5 [sM K05 a4] [(4,.ra 3 0),(6,.ptr [sM K05 a4] 0),(8,.fn 27 [.ra 6 0,.ra 1 0,.ptr [sM K05 a4] 0,.ra 2 0]),(9,.fn 29 [.ra 6 0,.ra 1 0,.ptr [sM K05 a4] 0,.ra 2 0]),(10,.fn 31 [.ra 1 0,.ptr [sM K05 a4] 0,.ra 2 0])] [(1,K0m a0),(2,K0m b1),(3,zS),(6,.box [.fn 25 [.ptr [sM K05 a4] 0]])] ?_)))))))
  obtain ⟨a6,a7,h⟩ := Qel h
  obtain rfl := os h
  exact rg hc none [oN,nQ ⟨[(24,I (a4.length : Int))],[],[]⟩,oN,oN,oN,some (.call (K0s a6) [] 7),oN,oN] [(4,.ra 3 0),(5,.bool true)] [(3,.box [I a6.fSize,.rs 7,.rs 8,.rs 9]),(7,rI a6.fPlus),(8,rI a6.fTimes),(9,rM AV.bool a6.fBelow)] (ad (Qer (d := 24) K05 a4) (K81 _ _ a7) K1l (Or.inr (Qfn rfl (Qfn (Qfl Qfh a6.fPlus) (Qfn (Qfl Qfh a6.fTimes) (Qfn (Qfl Qfj a6.fBelow) rfl)))) : ([6,1,2,6,1,2,1,2] : List Nat) = [] ∨ noSh (K0s a6) = true) tv) (rt (rq [true,true]))
 refine cT (!a1) (nT a3) ?_
 obtain rfl := os h
 exact K2x hc 3 [14,2,3] [(5,.bool false)] [(3,zS)] (rt (rq [true,true]))
def K85 (i0 : Int) : Option (ByteArray) :=
  if (decide (i0 < 10)) = true then
   (Qev (ByteArray.mk #[48,49,50,51,52,53,54,55,56,57,97,98,99,100,101,102,103,104,105,106,107,108,109,110,111,112,113,114,115,116,117,118,119,120,121,122]) (some i0) (some (wr (i0 + 1)))) >>= fun a0 =>
   some a0
  else
   (Qev (ByteArray.mk #[48,48,48,49,48,50,48,51,48,52,48,53,48,54,48,55,48,56,48,57,49,48,49,49,49,50,49,51,49,52,49,53,49,54,49,55,49,56,49,57,50,48,50,49,50,50,50,51,50,52,50,53,50,54,50,55,50,56,50,57,51,48,51,49,51,50,51,51,51,52,51,53,51,54,51,55,51,56,51,57,52,48,52,49,52,50,52,51,52,52,52,53,52,54,52,55,52,56,52,57,53,48,53,49,53,50,53,51,53,52,53,53,53,54,53,55,53,56,53,57,54,48,54,49,54,50,54,51,54,52,54,53,54,54,54,55,54,56,54,57,55,48,55,49,55,50,55,51,55,52,55,53,55,54,55,55,55,56,55,57,56,48,56,49,56,50,56,51,56,52,56,53,56,54,56,55,56,56,56,57,57,48,57,49,57,50,57,51,57,52,57,53,57,54,57,55,57,56,57,57]) (some (wr (i0 * 2))) (some (wr ((wr (i0 * 2)) + 2)))) >>= fun a1 =>
   some a1
def K86 (i0 : Int) (r : ByteArray) : Prop :=
 Q7a Tryd.prog 56 [I i0] (.str r) []
theorem K87 : ∀ p r,K85 p = some r → K86 p r := by
 rintro i0 r h
 unfold K85 at h
 refine b0 Tryd.f56 B56 15 [(0,I i0)] fun c hc => (K2x hc 1 [] [] [] (sN (K2x hc 2 [] [(4,.bool (decide (i0 < 10)))] [] (ic h (fun a0 h => ?_) fun a0 h => ?_))))
 ·obtain ⟨a1,a2,h⟩ := Qel h
  obtain rfl := os h
  exact rs hc none [oN,oN,oN,nQ ⟨[(8,.str a1)],[],[]⟩,oN] [(2,.str a1)] [] (ab (Qex (d := 8) a2) (Qew a2) tv) (rt (rq [true]))
 refine sk ?_
 obtain ⟨a3,a4,h⟩ := Qel h
 obtain rfl := os h
 exact rs hc none (nN 5 [nQ ⟨[(14,.str a3)],[],[]⟩,oN]) [(2,.str a3)] [] (ab (Qex (d := 14) a4) (Qew a4) tv) (rt (rq [true]))
def K88 (p : Int × Int) : Option (ByteArray) :=
 match p with
 | (i0,base1) =>
  if (base1 == 10) = true then
   ((
    if (decide (0 ≤ i0)) = true then
     some ((decide (i0 < 100)))
    else
     some (false)
   ) : Option (Bool)) >>= fun a0 =>
   if a0 = true then
    (K85 i0) >>= fun a1 =>
    some a1
   else
    none
  else
   none
def K89 (p : Int × Int) (r : ByteArray) : Prop :=
 match p with
 | (i0,base1) => Q7a Tryd.prog 53 [I i0,I base1] (.str r) []
theorem K8a : ∀ p r,K88 p = some r → K89 p r := by
 rintro ⟨i0,base1⟩ r h
 unfold K88 at h
 refine b0 Tryd.f53 B53 54 [(0,I i0),(1,I base1)] fun c hc => (K2x hc 1 [] [] [] (sN (rs0 hc 2 [(0,I i0),(1,I base1),(11,.bool (base1 == 10))] [] (ic h (fun a0 h => ?_) fun a0 h => ?_))))
 ·refine sN (sN ?_)
  obtain ⟨a1,a2,h⟩ := Qel h
  refine wi [1,11] [(17,.bool a1)] ?_ ?_
  ·replace h := a2
   rcases is h with ⟨a3,h⟩ | ⟨a3,h⟩
   ·obtain rfl := os h
    exact rj hc none (nN 5 [oT]) (ar 3 a3 tv)
   obtain rfl := os h
   exact rj hc none [oN,oN,oN,o_,o_,oF] (ar 2 (neT a3) (ai a3 tv))
  clear a2
  refine ic h (fun a4 h => ?_) fun a4 h => ?_
  ·obtain ⟨a5,a6,h⟩ := Qel h
   obtain rfl := os h
   exact rs hc none [oN,oc (.str a5),oN] [(4,.str a5)] [] (cq (K87 _ _ a6) K2a tv) (rt (rq [true]))
  refine sk (rs hc none [nW 1] [(0,I i0),(5,.ra 1 0)] [(1,.box [.int .u8 0,.int .u8 0,.int .u8 0,.int .u8 0,.int .u8 0,.int .u8 0,.int .u8 0,.int .u8 0,.int .u8 0,.int .u8 0,.int .u8 0,.int .u8 0,.int .u8 0,.int .u8 0,.int .u8 0,.int .u8 0,.int .u8 0,.int .u8 0,.int .u8 0,.int .u8 0,.int .u8 0,.int .u8 0,.int .u8 0,.int .u8 0])] tv (sN ?_))
  cases h
 refine sk (sN ?_)
 cases h
def K8b (i0 : Int) : Option (ByteArray) :=
  (K88 (i0,10)) >>= fun a0 =>
  some a0
def K8c (i0 : Int) (r : ByteArray) : Prop :=
 Q7a Tryd.prog 48 [I i0] (.str r) []
theorem K8d : ∀ p r,K8b p = some r → K8c p r := by
 rintro i0 r h
 unfold K8b at h
 refine b0 Tryd.f48 B48 5 [(0,I i0)] fun c hc => (K2x hc 1 [] [] [] ?_)
 obtain ⟨a0,a1,h⟩ := Qel h
 obtain rfl := os h
 exact rs hc none [oN,oc (.str a0),oN] [(2,.str a0)] [] (cq (K8a _ _ a1) K2b tv) (rt (rq [true]))
def K8e (i0 : Int) : Option (ByteArray) :=
  (K8b i0) >>= fun a0 =>
  some a0
def K8f (i0 : Int) (r : ByteArray) : Prop :=
 Q7a Tryd.prog 44 [I i0] (.str r) []
theorem K8g : ∀ p r,K8e p = some r → K8f p r := by
 rintro i0 r h
 unfold K8e at h
 refine b0 Tryd.f44 B44 5 [(0,I i0)] fun c hc => (K2x hc 1 [] [] [] ?_)
 obtain ⟨a0,a1,h⟩ := Qel h
 obtain rfl := os h
 exact rs hc none [oN,oc (.str a0),oN] [(2,.str a0)] [] (cq (K8d _ _ a1) K2c tv) (rt (rq [true]))
def K8h (c : Ctx) : (List K02) → Exit → Q0d → Prop
 | a0 => Qe7 c (.exit 0) (mkS [(1,.rs 6)] [(6,rM K07 a0)])
def K8i (p : (List K02) × Int) : Option ((List K02)) :=
 match p with
 | (a0,a1) =>
  if (decide (a1 ≤ 14)) = true then
  (K8e a1) >>= fun a2 =>
  (chk ((((ByteArray.mk #[99,111,117,110,116,32]).size + a2.size : Nat) : Int) ≤ 9223372036854775807)) >>= fun _ =>
  (K4i a1) >>= fun a3 =>
  (Qey (a0.length + [(K02.mk ((ByteArray.mk #[99,111,117,110,116,32]) ++ a2) a3)].length) 96) >>= fun _ =>
  K8i ((a0 ++ [(K02.mk ((ByteArray.mk #[99,111,117,110,116,32]) ++ a2) a3)]),(wr (a1 + 1)))
  else
  some (a0)
 partial_fixpoint
def K8j (p : (List K02) × Int) (fl : (List K02)) : Prop :=
 match p with
 | (a0,a1) => ∀ c : Ctx,c.nt = 45 → WpL Tryd.prog c (cl (cl (cr (cl (cr (cr B38)))))) (K8h c fl) (mkS [(1,.rs 6),(2,I a1)] [(6,rM K07 a0)])
theorem K8k : ∀ p r,K8i p = some r → K8j p r := by
 refine K8i.partial_correctness K8j ?_
 rintro impl_simple_l0_f impl_simple_l0_ih ⟨a0,a1⟩ r h
 intro c hc
 refine WpL.step (sN (K2z hc 2 [] [(6,.bool (decide (a1 ≤ 14)))] (ic h (fun a2 h => ?_) fun a2 h => ?_)))
 ·refine sk (sN (bk 1 ?_))
  obtain ⟨a3,a4,_,a5,a6,a7,_,a8,h⟩ := bq4 h
  exact rgd hc none [oN,oN,oc (.str a3),oN,oN,some (.call (K0s a6) [] 12),oN,mK 15,some (.eqv (.mk 16 true) ⟨[(17,.rs 16)],[(16,some (.arr (List.map K07 (a0 ++ [(K02.mk ((ByteArray.mk #[99,111,117,110,116,32]) ++ a3) a6)])))),(6,none),(15,none)],[16]⟩),oN] [6,1] [(1,.rs 16)] [(16,.arr (List.map K07 (a0 ++ [(K02.mk ((ByteArray.mk #[99,111,117,110,116,32]) ++ a3) a6)])))] (cq (K8g _ _ a4) K2d (ai (Qen a5) (cq (K4k _ _ a7) K1p (ab (congrArg (fun z => (⟨[(17,.rs 16)],[(16,some (.arr z)),(6,none),(15,none)],[16]⟩ : Wr)) ((List.map_append).symm : (List.map K07 a0) ++ (List.map K07 [(K02.mk ((ByteArray.mk #[99,111,117,110,116,32]) ++ a3) a6)]) = List.map K07 (a0 ++ [(K02.mk ((ByteArray.mk #[99,111,117,110,116,32]) ++ a3) a6)]))) (Qez (enc1 := K07) (enc2 := K07) (e1 := a0) (e2 := [(K02.mk ((ByteArray.mk #[99,111,117,110,116,32]) ++ a3) a6)]) (sz := 5) K0f K0f a8) tv)))) (K2s hc 3 [(1,.rs 16),(2,I (wr (a1 + 1)))] (Qe3 (WpL.view (fun a w hv => SRx.renL [(6,16)] hv (by kernel_rfl) (by kernel_rfl) (by kernel_rfl)) (impl_simple_l0_ih _ _ h c hc))))
 obtain rfl := os h
 exact xt 0 (Qdx (Qe4 (iv [])))
def K8l (c : Ctx) : (List K02) → Exit → Q0d → Prop
 | a0 => Qe7 c (.exit 2) (mkS [(1,.rs 6)] [(6,rM K07 a0)])
def K8m (p : (List K02) × Int) : Option ((List K02)) :=
 match p with
 | (a0,a1) =>
  if (decide (a1 ≤ 14)) = true then
  (K8e a1) >>= fun a2 =>
  (chk ((((ByteArray.mk #[98,111,117,110,100,32]).size + a2.size : Nat) : Int) ≤ 9223372036854775807)) >>= fun _ =>
  (K3y a1) >>= fun a3 =>
  (Qey (a0.length + [(K02.mk ((ByteArray.mk #[98,111,117,110,100,32]) ++ a2) a3)].length) 96) >>= fun _ =>
  K8m ((a0 ++ [(K02.mk ((ByteArray.mk #[98,111,117,110,100,32]) ++ a2) a3)]),(wr (a1 + 1)))
  else
  some (a0)
 partial_fixpoint
def K8n (p : (List K02) × Int) (fl : (List K02)) : Prop :=
 match p with
 | (a0,a1) => ∀ c : Ctx,c.nt = 45 → WpL Tryd.prog c (cl (cl (cr (cl (cr (cr (cr B38))))))) (K8l c fl) (mkS [(1,.rs 6),(3,I a1)] [(6,rM K07 a0)])
theorem K8o : ∀ p r,K8m p = some r → K8n p r := by
 refine K8m.partial_correctness K8n ?_
 rintro impl_simple_l1_f impl_simple_l1_ih ⟨a0,a1⟩ r h
 intro c hc
 refine WpL.step (sN (K2z hc 2 [] [(19,.bool (decide (a1 ≤ 14)))] (ic h (fun a2 h => ?_) fun a2 h => ?_)))
 ·refine sk (sN (bk 3 ?_))
  obtain ⟨a3,a4,_,a5,a6,a7,_,a8,h⟩ := bq4 h
  exact rgd hc none [oN,oN,oc (.str a3),oN,oN,some (.call (K0s a6) [] 23),oN,mK 26,some (.eqv (.mk 27 true) ⟨[(30,.rs 27)],[(27,some (.arr (List.map K07 (a0 ++ [(K02.mk ((ByteArray.mk #[98,111,117,110,100,32]) ++ a3) a6)])))),(6,none),(26,none)],[27]⟩),oN] [19,1] [(1,.rs 27)] [(27,.arr (List.map K07 (a0 ++ [(K02.mk ((ByteArray.mk #[98,111,117,110,100,32]) ++ a3) a6)])))] (cq (K8g _ _ a4) K2d (ai (Qen a5) (cq (K40 _ _ a7) K1n (ab (congrArg (fun z => (⟨[(30,.rs 27)],[(27,some (.arr z)),(6,none),(26,none)],[27]⟩ : Wr)) ((List.map_append).symm : (List.map K07 a0) ++ (List.map K07 [(K02.mk ((ByteArray.mk #[98,111,117,110,100,32]) ++ a3) a6)]) = List.map K07 (a0 ++ [(K02.mk ((ByteArray.mk #[98,111,117,110,100,32]) ++ a3) a6)]))) (Qez (enc1 := K07) (enc2 := K07) (e1 := a0) (e2 := [(K02.mk ((ByteArray.mk #[98,111,117,110,100,32]) ++ a3) a6)]) (sz := 5) K0f K0f a8) tv)))) (K2s hc 3 [(1,.rs 27),(3,I (wr (a1 + 1)))] (Qe3 (WpL.view (fun a w hv => SRx.renL [(6,27)] hv (by kernel_rfl) (by kernel_rfl) (by kernel_rfl)) (impl_simple_l1_ih _ _ h c hc))))
 obtain rfl := os h
 exact xt 2 (Qdx (Qe4 (iv [])))
def K8p (c : Ctx) : (List K02) → Exit → Q0d → Prop
 | a0 => Qe7 c (.exit 4) (mkS [(1,.rs 6)] [(6,rM K07 a0)])
def K8q (p : (List K02) × Int) : Option ((List K02)) :=
 match p with
 | (a0,a1) =>
  if (decide (a1 ≤ 15)) = true then
  (K8e a1) >>= fun a2 =>
  (chk ((((ByteArray.mk #[108,101,118,101,108,32]).size + a2.size : Nat) : Int) ≤ 9223372036854775807)) >>= fun _ =>
  (K5c a1) >>= fun a3 =>
  (Qey (a0.length + [(K02.mk ((ByteArray.mk #[108,101,118,101,108,32]) ++ a2) a3)].length) 96) >>= fun _ =>
  K8q ((a0 ++ [(K02.mk ((ByteArray.mk #[108,101,118,101,108,32]) ++ a2) a3)]),(wr (a1 + 1)))
  else
  some (a0)
 partial_fixpoint
def K8r (p : (List K02) × Int) (fl : (List K02)) : Prop :=
 match p with
 | (a0,a1) => ∀ c : Ctx,c.nt = 45 → WpL Tryd.prog c (cl (cl (cr (cl (cr (cr (cr (cr B38)))))))) (K8p c fl) (mkS [(1,.rs 6),(4,I a1)] [(6,rM K07 a0)])
theorem K8s : ∀ p r,K8q p = some r → K8r p r := by
 refine K8q.partial_correctness K8r ?_
 rintro impl_simple_l2_f impl_simple_l2_ih ⟨a0,a1⟩ r h
 intro c hc
 refine WpL.step (sN (K2z hc 2 [] [(32,.bool (decide (a1 ≤ 15)))] (ic h (fun a2 h => ?_) fun a2 h => ?_)))
 ·refine sk (sN (bk 5 ?_))
  obtain ⟨a3,a4,_,a5,a6,a7,_,a8,h⟩ := bq4 h
  exact rgd hc none [oN,oN,oc (.str a3),oN,oN,some (.call (K0s a6) [] 33),oN,mK 36,some (.eqv (.mk 37 true) ⟨[(43,.rs 37)],[(37,some (.arr (List.map K07 (a0 ++ [(K02.mk ((ByteArray.mk #[108,101,118,101,108,32]) ++ a3) a6)])))),(6,none),(36,none)],[37]⟩),oN] [32,1] [(1,.rs 37)] [(37,.arr (List.map K07 (a0 ++ [(K02.mk ((ByteArray.mk #[108,101,118,101,108,32]) ++ a3) a6)])))] (cq (K8g _ _ a4) K2d (ai (Qen a5) (cq (K5e _ _ a7) K1u (ab (congrArg (fun z => (⟨[(43,.rs 37)],[(37,some (.arr z)),(6,none),(36,none)],[37]⟩ : Wr)) ((List.map_append).symm : (List.map K07 a0) ++ (List.map K07 [(K02.mk ((ByteArray.mk #[108,101,118,101,108,32]) ++ a3) a6)]) = List.map K07 (a0 ++ [(K02.mk ((ByteArray.mk #[108,101,118,101,108,32]) ++ a3) a6)]))) (Qez (enc1 := K07) (enc2 := K07) (e1 := a0) (e2 := [(K02.mk ((ByteArray.mk #[108,101,118,101,108,32]) ++ a3) a6)]) (sz := 5) K0f K0f a8) tv)))) (K2s hc 3 [(1,.rs 37),(4,I (wr (a1 + 1)))] (Qe3 (WpL.view (fun a w hv => SRx.renL [(6,37)] hv (by kernel_rfl) (by kernel_rfl) (by kernel_rfl)) (impl_simple_l2_ih _ _ h c hc))))
 obtain rfl := os h
 exact xt 4 (Qdx (Qe4 (iv [])))
def K8t (p : Unit) : Option ((List K02)) :=
 match p with
 | () =>
  (K8i ([],1)) >>= fun a0 =>
  (K8m (a0,1)) >>= fun a1 =>
  (K8q (a1,1)) >>= fun a2 =>
  some a2
def K8u (p : Unit) (r : (List K02)) : Prop :=
 match p with
 | () => Q7a Tryd.prog 38 [] (oM K07 r) []
theorem K8v : ∀ p r,K8t p = some r → K8u p r := by
 rintro ⟨⟩ r h
 unfold K8t at h
 refine b0 Tryd.f38 B38 45 [] fun c hc => (rs0 hc 1 [] [] (rs0 hc 1 [(1,.nils)] [] (sN (rs0 hc 1 [(1,.nils),(2,I 1)] [] (bk 0 ?_)))))
 obtain ⟨a0,a1,h⟩ := Qel h
 have hL := K8k _ _ a1 c hc
 refine Wp.loopN (by kernel_rfl) (WpL.view (fun a w hv => SRx.renL [(6,17)] (SRx.nilTL 1 17 hv (by kernel_rfl) (by kernel_rfl)) (by kernel_rfl) (by kernel_rfl) (by kernel_rfl)) (?_ : WpL _ c _ _ (mkS [(1,.rs 6),(2,I 1)] [(6,.arr (List.map K07 []))])))
 refine wl hL (Qdz (sN (K2w hc 1 [(1,.rs 6),(3,I 1)] (bk 2 ?_))))
 obtain ⟨a2,a3,h⟩ := Qel h
 have hL := K8o _ _ a3 c hc
 refine lp (wl hL (Qdz (sN (K2w hc 1 [(1,.rs 6),(4,I 1)] (bk 4 ?_)))))
 obtain ⟨a4,a5,h⟩ := Qel h
 have hL := K8s _ _ a5 c hc
 refine lp (wl hL ?_)
 obtain rfl := os h
 exact Qdz (K2w hc 2 [(0,.rs 6)] (rt (rq [true])))
def K8w (c : Ctx) : (Unit) ⊕ (Bool) → Exit → Q0d → Prop
 | .inl _ => Qe7 c (.exit 0) (mkS [] [])
 | .inr r => Qeg TIx Tryd.f45 [] (.bool r)
def K8x (p : (List Int) × (List Int) × Int) : Option ((Unit) ⊕ (Bool)) :=
 match p with
 | (s10,s21,a0) =>
  if (decide (a0 < (s10.length : Int))) = true then
  (idx s10 a0) >>= fun a1 =>
  (idx s21 a0) >>= fun a2 =>
  if (a1 != a2) = true then
  some (.inr false)
  else
  K8x (s10,s21,(wr (a0 + 1)))
  else
  some (.inl ())
 partial_fixpoint
def K8y (p : (List Int) × (List Int) × Int) (fl : (Unit) ⊕ (Bool)) : Prop :=
 match p with
 | (s10,s21,a0) => ∀ c : Ctx,c.nt = 26 → WpL Tryd.prog c (cl (cl (cr (cl (cr (cr B45)))))) (K8w c fl) (mkS [(0,sI s10),(1,sI s21),(12,I (s10.length : Int)),(13,I a0)] [])
theorem K8z : ∀ p r,K8x p = some r → K8y p r := by
 refine K8x.partial_correctness K8y ?_
 rintro slices_Equal_int_l0_f slices_Equal_int_l0_ih ⟨s10,s21,a0⟩ r h
 intro c hc
 refine WpL.step (K2x hc 1 [] [(14,.bool (decide (a0 < (s10.length : Int))))] [] (sN (ic h (fun a1 h => ?_) fun a1 h => ?_)))
 ·refine sk (sN (bk 1 (K2x hc 2 [14] [(5,I a0)] [] ?_)))
  obtain ⟨a2,a3,a4,a5,h⟩ := bq2 h
  refine rsd hc K7n [oN,oN,eL (I a2),oN,oN,oN,eL (I a4),oN,oN] [5] [(24,.bool (a2 != a4))] [] (ab (ix a3) (ix a5) tv) (ic h (fun a6 h => ?_) fun a6 h => ?_)
  ·obtain rfl := os h
   exact rs0 hc 1 [(4,.bool false)] [] (rt (re [true]))
  exact sk (ri0 hc 2 (Qe3 (slices_Equal_int_l0_ih _ _ h c hc)))
 obtain rfl := os h
 exact xt 0 (Qdx (Qe4 (iv [])))
def K90 (p : (List Int) × (List Int)) : Option (Bool) :=
 match p with
 | (s10,s21) =>
  if ((s10.length : Int) != (s21.length : Int)) = true then
  some false
  else
  (K8x (s10,s21,0)) >>= fun fl => match fl with
  | .inl () =>
   some true
  | .inr r =>
   some r
def K91 (p : (List Int) × (List Int)) (r : Bool) : Prop :=
 match p with
 | (s10,s21) => Q7a Tryd.prog 45 [sI s10,sI s21] (.bool r) []
theorem K92 : ∀ p r,K90 p = some r → K91 p r := by
 rintro ⟨s10,s21⟩ r h
 unfold K90 at h
 refine b0 Tryd.f45 B45 26 [(0,sI s10),(1,sI s21)] fun c hc => (K2x hc 1 [] [] [] (sN (rsd hc none [oN,nQ ⟨[(7,I (s10.length : Int))],[],[]⟩,oN,nQ ⟨[(9,I (s21.length : Int))],[],[]⟩,oN] [] [(10,.bool ((s10.length : Int) != (s21.length : Int)))] [] (ab (Qer (d := 7) I s10) (Qer (d := 9) I s21) tv) (ic h (fun a0 h => ?_) fun a0 h => ?_))))
 ·obtain rfl := os h
  exact rs0 hc 1 [(4,.bool false)] [] (rt (rq [true]))
 refine sk (sN (rs hc none [oN,nQ ⟨[(12,I (s10.length : Int))],[],[]⟩,oN] [(0,sI s10),(1,sI s21),(12,I (s10.length : Int)),(13,I 0)] [] (ai (Qer (d := 12) I s10) tv) (bk 0 ?_)))
 obtain ⟨fl,a1,h⟩ := Qel h
 have hL := K8z _ _ a1 c hc
 refine lp ?_
 rcases fl with ⟨⟩ | r
 ·refine wl hL ?_
  obtain rfl := os h
  exact Qdz (rs0 hc 1 [(4,.bool true)] [] (rt (rq [true])))
 refine WpL.mono hL ?_
 rintro _ _ ⟨rfl,hfin⟩
 obtain rfl := os h
 exact ⟨.inl rfl,hfin⟩
def K93 (c : Ctx) : (Unit) ⊕ (Bool) → Exit → Q0d → Prop
 | .inl _ => Qe7 c (.exit 0) (mkS [] [])
 | .inr r => Qeg TIx Tryd.f46 [] (.bool r)
def K94 (p : (List Bool) × (List Bool) × Int) : Option ((Unit) ⊕ (Bool)) :=
 match p with
 | (s10,s21,a0) =>
  if (decide (a0 < (s10.length : Int))) = true then
  (idx s10 a0) >>= fun a1 =>
  (idx s21 a0) >>= fun a2 =>
  if (a1 == a2) = true then
  K94 (s10,s21,(wr (a0 + 1)))
  else
  some (.inr false)
  else
  some (.inl ())
 partial_fixpoint
def K95 (p : (List Bool) × (List Bool) × Int) (fl : (Unit) ⊕ (Bool)) : Prop :=
 match p with
 | (s10,s21,a0) => ∀ c : Ctx,c.nt = 26 → WpL Tryd.prog c (cl (cl (cr (cl (cr (cr B46)))))) (K93 c fl) (mkS [(0,sB s10),(1,sB s21),(12,I (s10.length : Int)),(13,I a0)] [])
theorem K96 : ∀ p r,K94 p = some r → K95 p r := by
 refine K94.partial_correctness K95 ?_
 rintro slices_Equal_bool_l0_f slices_Equal_bool_l0_ih ⟨s10,s21,a0⟩ r h
 intro c hc
 refine WpL.step (K2x hc 1 [] [(14,.bool (decide (a0 < (s10.length : Int))))] [] (sN (ic h (fun a1 h => ?_) fun a1 h => ?_)))
 ·refine sk (sN (bk 1 (K2x hc 2 [14] [(5,I a0)] [] ?_)))
  obtain ⟨a2,a3,a4,a5,h⟩ := bq2 h
  refine rsd hc K7n [oN,oN,eB a2,oN,oN,oN,eB a4,oN,oN] [5] [(24,.bool (!(a2 == a4)))] [] (ab (xB a3) (xB a5) tv) ?_
  rcases is h with ⟨a6,h⟩ | ⟨a6,h⟩
  ·exact cF ((!(a2 == a4))) (nF a6) (sk (ri0 hc 2 (Qe3 (slices_Equal_bool_l0_ih _ _ h c hc))))
  refine cT ((!(a2 == a4))) (nT a6) ?_
  obtain rfl := os h
  exact rs0 hc 1 [(4,.bool false)] [] (rt (re [true]))
 obtain rfl := os h
 exact xt 0 (Qdx (Qe4 (iv [])))
def K97 (p : (List Bool) × (List Bool)) : Option (Bool) :=
 match p with
 | (s10,s21) =>
  if ((s10.length : Int) != (s21.length : Int)) = true then
  some false
  else
  (K94 (s10,s21,0)) >>= fun fl => match fl with
  | .inl () =>
   some true
  | .inr r =>
   some r
def K98 (p : (List Bool) × (List Bool)) (r : Bool) : Prop :=
 match p with
 | (s10,s21) => Q7a Tryd.prog 46 [sB s10,sB s21] (.bool r) []
theorem K99 : ∀ p r,K97 p = some r → K98 p r := by
 rintro ⟨s10,s21⟩ r h
 unfold K97 at h
 refine b0 Tryd.f46 B46 26 [(0,sB s10),(1,sB s21)] fun c hc => (K2x hc 1 [] [] [] (sN (rsd hc none [oN,nQ ⟨[(7,I (s10.length : Int))],[],[]⟩,oN,nQ ⟨[(9,I (s21.length : Int))],[],[]⟩,oN] [] [(10,.bool ((s10.length : Int) != (s21.length : Int)))] [] (ab (Qer (d := 7) AV.bool s10) (Qer (d := 9) AV.bool s21) tv) (ic h (fun a0 h => ?_) fun a0 h => ?_))))
 ·obtain rfl := os h
  exact rs0 hc 1 [(4,.bool false)] [] (rt (rq [true]))
 refine sk (sN (rs hc none [oN,nQ ⟨[(12,I (s10.length : Int))],[],[]⟩,oN] [(0,sB s10),(1,sB s21),(12,I (s10.length : Int)),(13,I 0)] [] (ai (Qer (d := 12) AV.bool s10) tv) (bk 0 ?_)))
 obtain ⟨fl,a1,h⟩ := Qel h
 have hL := K96 _ _ a1 c hc
 refine lp ?_
 rcases fl with ⟨⟩ | r
 ·refine wl hL ?_
  obtain rfl := os h
  exact Qdz (rs0 hc 1 [(4,.bool true)] [] (rt (rq [true])))
 refine WpL.mono hL ?_
 rintro _ _ ⟨rfl,hfin⟩
 obtain rfl := os h
 exact ⟨.inl rfl,hfin⟩
def K9a (p : K00 × K00) : Option (Bool) :=
 match p with
 | (a0,b1) =>
  ((
  if (a0.fSize == b1.fSize) = true then
  (K90 (a0.fPlus,b1.fPlus)) >>= fun a1 =>
  if a1 = true then
  (K90 (a0.fTimes,b1.fTimes)) >>= fun a2 =>
  if a2 = true then
  (K97 (a0.fBelow,b1.fBelow)) >>= fun a3 =>
  some (a3)
  else
  some (false)
  else
  some (false)
  else
  some (false)
  ) : Option (Bool)) >>= fun a4 =>
  some a4
def K9b (p : K00 × K00) (r : Bool) : Prop :=
 match p with
 | (a0,b1) => Q7a Tryd.prog 39 [K0n a0,K0n b1] (.bool r) []
theorem K9c : ∀ p r,K9a p = some r → K9b p r := by
 rintro ⟨a0,b1⟩ r h
 unfold K9a at h
 refine b0 Tryd.f39 B39 31 [(0,K0n a0),(1,K0n b1)] fun c hc => (rs hc none [nW 1,nW 2,oN] [(2,.ra 1 0),(3,.ra 2 0)] [(1,K0m a0),(2,K0m b1)] tv (sN ?_))
 obtain ⟨a1,a2,h⟩ := Qel h
 refine Wp.into (x := .normal) (mkS [(4,.bool a1)] []) ?_ ?_
 ·replace h := a2
  rcases is h with ⟨a3,h⟩ | ⟨a3,h⟩
  ·obtain ⟨a4,a5,h⟩ := Qel h
   rcases is h with ⟨a6,h⟩ | ⟨a6,h⟩
   ·obtain ⟨a7,a8,h⟩ := Qel h
    rcases is h with ⟨a9,h⟩ | ⟨a9,h⟩
    ·obtain ⟨b2,b3,h⟩ := Qel h
     obtain rfl := os h
     exact rj hc none (nN 10 ([oc (.bool a4),oT]++nN 5 ([oc (.bool a7),oT]++nN 5 [oc (.bool b2),oT,oN]))) (ar 5 a3 (cq (K92 _ _ a5) K2f (ai a3 (ar 5 a6 (cq (K92 _ _ a8) K2f (ai a6 (ar 5 a9 (cq (K99 _ _ b3) K2g (ai a9 tv)))))))))
    obtain rfl := os h
    exact rj hc none (nN 10 ([oc (.bool a4),oT]++nN 5 ([oc (.bool a7),oT,oN]++n_ 5 [oF,oN]))) (ar 5 a3 (cq (K92 _ _ a5) K2f (ai a3 (ar 5 a6 (cq (K92 _ _ a8) K2f (ai a6 (ar 5 (neT a9) (ai a9 tv))))))))
   obtain rfl := os h
   exact rj hc none (nN 10 ([oc (.bool a4),oT,oN]++n_ 5 ([oF,oN]++n_ 5 [oF,oN]))) (ar 5 a3 (cq (K92 _ _ a5) K2f (ai a3 (ar 5 (neT a6) (ai a6 (ar 5 (neT fF) (ai fF tv)))))))
  obtain rfl := os h
  exact rj hc none (nN 6 (n_ 5 ([oF,oN]++n_ 5 ([oF,oN]++n_ 5 [oF,oN])))) (ar 5 (neT a3) (ai a3 (ar 5 (neT fF) (ai fF (ar 5 (neT fF) (ai fF tv))))))
 clear a2
 obtain rfl := os h
 exact rt (rq [true])
def K9d (c : Ctx) (s0 : K00) (a0 : List K02) : (Unit) ⊕ (ByteArray) → Exit → Q0d → Prop
 | .inl _ => Qe7 c (.exit 0) (mkS [(1,.ra 1 0),(3,sM K06 a0)] [(1,K0m s0)])
 | .inr r => Qeg TIx Tryd.f12 [] (.str r)
def K9e (p : K00 × (List K02) × Int) : Option ((Unit) ⊕ (ByteArray)) :=
 match p with
 | (s0,a0,a1) =>
  if (decide (a1 < (a0.length : Int))) = true then
  (idx a0 a1) >>= fun a2 =>
  (K9a (a2.fs,s0)) >>= fun a3 =>
  if a3 = true then
  some (.inr a2.ftext)
  else
  K9e (s0,a0,(wr (a1 + 1)))
  else
  some (.inl ())
 partial_fixpoint
def K9f (p : K00 × (List K02) × Int) (fl : (Unit) ⊕ (ByteArray)) : Prop :=
 match p with
 | (s0,a0,a1) => ∀ c : Ctx,c.nt = 70 → WpL Tryd.prog c (cl (cl (cr (cl (cr (cr B12)))))) (K9d c s0 a0 fl) (mkS [(1,.ra 1 0),(3,sM K06 a0),(13,sM K06 a0),(14,I (a0.length : Int)),(15,I a1)] [(1,K0m s0)])
theorem K9g : ∀ p r,K9e p = some r → K9f p r := by
 refine K9e.partial_correctness K9f ?_
 rintro impl_FormatSystem_l0_f impl_FormatSystem_l0_ih ⟨s0,a0,a1⟩ r h
 intro c hc
 refine WpL.step (K2z hc 1 [] [(16,.bool (decide (a1 < (a0.length : Int))))] (sN (ic h (fun a2 h => ?_) fun a2 h => ?_)))
 ·refine sk (sN (bk 1 ?_))
  obtain ⟨a3,a4,h⟩ := Qel h
  refine rsd hc none [eL (K0q a3),oN,nW 3,oN] [16] [(5,.ra 3 0)] [(1,K0m s0),(3,K0p a3)] (ai (Qep a4 (K0g a3)) tv) ?_
  obtain ⟨a5,a6,h⟩ := Qel h
  refine K2y hc none [oN,oN,oN,oc (.bool a5)] [] [(22,.bool a5)] (cq (K9c _ _ a6) K2h tv) (ic h (fun a7 h => ?_) fun a7 h => ?_)
  ·obtain rfl := os h
   exact rs0 hc 3 [(2,.str a3.ftext)] [] (rt (re [true]))
  exact sk (ri0 hc 2 (Qe3 (impl_FormatSystem_l0_ih _ _ h c hc)))
 obtain rfl := os h
 exact xt 0 (Qdx (Qe4 (iv [])))
def K9h (c : Ctx) (s0 : K00) (a0 : List K02) (a1 : K02) (a2 : Int) (a3 : Int) : (Unit) ⊕ (ByteArray) → Exit → Q0d → Prop
 | .inl _ => Qe7 c .normal (mkS [(1,.ra 1 0),(3,sM K06 a0),(7,.ra 15 0),(26,sM K06 a0),(27,I (a0.length : Int)),(28,I a2),(32,sM K06 a0),(33,I (a0.length : Int)),(34,I a3)] [(1,K0m s0),(15,K0p a1)])
 | .inr r => Qeg TIx Tryd.f12 [] (.str r)
def K9i (c : Ctx) (s0 : K00) (a0 : List K02) (a1 : Int) : (Unit) ⊕ (ByteArray) → Exit → Q0d → Prop
 | .inl _ => Qe7 c (.exit 4) (mkS [(1,.ra 1 0),(3,sM K06 a0),(26,sM K06 a0),(27,I (a0.length : Int)),(28,I a1)] [(1,K0m s0)])
 | .inr r => Qeg TIx Tryd.f12 [] (.str r)
def K9j (p : K00 × (List K02) × Int × K02 × Int) : Option ((Unit) ⊕ (ByteArray)) :=
 match p with
 | (s0,a0,a1,a2,a3) =>
  if (decide (a3 < (a0.length : Int))) = true then
  ((
   (idx a0 a3) >>= fun a4 =>
   if ((wr (a2.fs.fSize * a4.fs.fSize)) != s0.fSize) = true then
   some (.inl ())
   else
   (K82 (a2.fs,a4.fs)) >>= fun (a5,a6) =>
   ((
   if a6 = true then
   (K9a (a5,s0)) >>= fun a7 =>
   some (a7)
   else
   some (false)
   ) : Option (Bool)) >>= fun a8 =>
   if a8 = true then
   (chk (((a2.ftext.size + (ByteArray.mk #[42]).size : Nat) : Int) ≤ 9223372036854775807)) >>= fun _ =>
   (chk ((((a2.ftext ++ (ByteArray.mk #[42])).size + a4.ftext.size : Nat) : Int) ≤ 9223372036854775807)) >>= fun _ =>
   some (.inr ((a2.ftext ++ (ByteArray.mk #[42])) ++ a4.ftext))
   else
   some (.inl ())) : Option ((Unit) ⊕ (ByteArray))) >>= fun fl => match fl with
  | .inl () =>
   K9j (s0,a0,a1,a2,(wr (a3 + 1)))
  | .inr r =>
   some (.inr r)
  else
  some (.inl ())
 partial_fixpoint
def K9k (p : K00 × (List K02) × Int × K02 × Int) (fl : (Unit) ⊕ (ByteArray)) : Prop :=
 match p with
 | (s0,a0,a1,a2,a3) => ∀ c : Ctx,c.nt = 70 → WpL Tryd.prog c (cl (cl (cr (cr (cl (cl (cr (cr (cl (cl (cr (cl (cr (cr (cr B12))))))))))))))) (K9i c s0 a0 a1 fl) (mkS [(1,.ra 1 0),(3,sM K06 a0),(7,.ra 15 0),(26,sM K06 a0),(27,I (a0.length : Int)),(28,I a1),(32,sM K06 a0),(33,I (a0.length : Int)),(34,I a3)] [(1,K0m s0),(15,K0p a2)])
theorem K9l : ∀ p r,K9j p = some r → K9k p r := by
 refine K9j.partial_correctness K9k ?_
 rintro impl_FormatSystem_l1_f impl_FormatSystem_l1_ih ⟨s0,a0,a1,a2,a3⟩ r h
 intro c hc
 refine WpL.step (K2w hc 1 [(1,.ra 1 0),(3,sM K06 a0),(7,.ra 15 0),(26,sM K06 a0),(27,I (a0.length : Int)),(28,I a1),(32,sM K06 a0),(33,I (a0.length : Int)),(34,I a3),(35,.bool (decide (a3 < (a0.length : Int))))] (sN (ic h (fun a4 h => ?_) fun a4 h => ?_)))
 ·refine sk (sN ?_)
  obtain ⟨fl,a5,h⟩ := Qel h
  refine flw (K9h c s0 a0 a2 a1 a3 fl) ?_ (fun hF => ?_)
  ·replace h := a5
   refine bk 5 ?_
   obtain ⟨a6,a7,h⟩ := Qel h
   refine rsd hc none [eL (K0q a6),oN,nW 21,oN] [35] [(9,.ra 21 0)] [(1,K0m s0),(15,K0p a2),(21,K0p a6)] (ai (Qep a7 (K0g a6)) tv) (sN (K2z hc 10 [] [(47,.bool ((wr (a2.fs.fSize * a6.fs.fSize)) != s0.fSize))] (ic h (fun a8 h => ?_) fun a8 h => ?_)))
   ·obtain rfl := os h
    exact xt 5 (Qdx (Qdz (iv [])))
   refine sk ?_
   obtain ⟨⟨a9,b1⟩,b2,h⟩ := Qel h
   refine rsd hc none (nN 4 [some (.call (.tup [K0s a9,.bool b1]) [] 22),oN,oN,oN,nW 25,oN,oN]) [47] [(10,.ra 25 0),(11,.bool b1)] [(1,K0m s0),(15,K0p a2),(21,K0p a6),(22,rI a9.fPlus),(23,rI a9.fTimes),(24,rM AV.bool a9.fBelow),(25,.box [I a9.fSize,.rs 22,.rs 23,.rs 24])] (cq (K84 _ _ b2) K29 tv) (sN ?_)
   obtain ⟨b3,b4,h⟩ := Qel h
   refine Wp.into (x := .normal) (mkS [(1,.ra 1 0),(3,sM K06 a0),(7,.ra 15 0),(9,.ra 21 0),(26,sM K06 a0),(27,I (a0.length : Int)),(28,I a1),(32,sM K06 a0),(33,I (a0.length : Int)),(34,I a3),(61,.bool b3)] [(1,K0m s0),(15,K0p a2),(21,K0p a6)]) ?_ ?_
   ·replace h := b4
    rcases is h with ⟨b5,h⟩ | ⟨b5,h⟩
    ·obtain ⟨b6,b7,h⟩ := Qel h
     obtain rfl := os h
     exact rj hc none (nN 4 [oc (.bool b6),oT]) (ar 3 b5 (ad (Q7a.args (A1 := [K0t a9,K0n s0]) (A2 := [K0n a9,K0n s0]) (by simp only [K0t,List.map_nil,Qff,Qfd]) (K9c _ _ b7)) K2h (Or.inr rfl : ([22,23,24] : List Nat) = [] ∨ noSh (.bool b6) = true) b5 tv))
    obtain rfl := os h
    exact rj hc none [oN,oN,o_,o_,o_,oF] (ar 3 (neT b5) (ai b5 tv))
   clear b4
   refine ic h (fun b8 h => ?_) fun b8 h => ?_
   ·obtain ⟨_,b9,_,c0,h⟩ := bq2 h
    obtain rfl := os h
    exact rs hc none (nN 7 []) [(2,.str ((a2.ftext ++ (ByteArray.mk #[42])) ++ a6.ftext))] [] (ab (Qen b9) (Qen c0) tv) (rt (re [true]))
   obtain rfl := os h
   exact sk (iv [])
  rcases fl with ⟨⟩ | r
  ·exact wf hF (ri0 hc 2 (Qe3 (impl_FormatSystem_l1_ih _ _ h c hc)))
  refine Wp.mono hF ?_
  rintro _ _ ⟨rfl,hfin⟩
  obtain rfl := os h
  exact ⟨rfl,hfin⟩
 obtain rfl := os h
 exact xt 4 (Qdx (Qe4 (iv [])))
def K9m (c : Ctx) : (Unit) ⊕ (ByteArray) → Exit → Q0d → Prop
 | .inl _ => Qe7 c (.exit 2) (mkS [] [])
 | .inr r => Qeg TIx Tryd.f12 [] (.str r)
def K9n (p : K00 × (List K02) × Int) : Option ((Unit) ⊕ (ByteArray)) :=
 match p with
 | (s0,a0,a1) =>
  if (decide (a1 < (a0.length : Int))) = true then
  (idx a0 a1) >>= fun a2 =>
  (K9j (s0,a0,a1,a2,0)) >>= fun fl => match fl with
  | .inl () =>
   K9n (s0,a0,(wr (a1 + 1)))
  | .inr r =>
   some (.inr r)
  else
  some (.inl ())
 partial_fixpoint
def K9o (p : K00 × (List K02) × Int) (fl : (Unit) ⊕ (ByteArray)) : Prop :=
 match p with
 | (s0,a0,a1) => ∀ c : Ctx,c.nt = 70 → WpL Tryd.prog c (cl (cl (cr (cl (cr (cr (cr B12))))))) (K9m c fl) (mkS [(1,.ra 1 0),(3,sM K06 a0),(26,sM K06 a0),(27,I (a0.length : Int)),(28,I a1)] [(1,K0m s0)])
theorem K9p : ∀ p r,K9n p = some r → K9o p r := by
 refine K9n.partial_correctness K9o ?_
 rintro impl_FormatSystem_l2_f impl_FormatSystem_l2_ih ⟨s0,a0,a1⟩ r h
 intro c hc
 refine WpL.step (K2z hc 1 [] [(29,.bool (decide (a1 < (a0.length : Int))))] (sN (ic h (fun a2 h => ?_) fun a2 h => ?_)))
 ·refine sk (sN (bk 3 ?_))
  obtain ⟨a3,a4,h⟩ := Qel h
  refine rsd hc none [eL (K0q a3),oN,nW 15,oN] [29] [(7,.ra 15 0)] [(1,K0m s0),(15,K0p a3)] (ai (Qep a4 (K0g a3)) tv) (rss hc none [oN,nQ ⟨[(33,I (a0.length : Int))],[],[]⟩,oN] [(1,.ra 1 0),(3,sM K06 a0),(7,.ra 15 0),(26,sM K06 a0),(27,I (a0.length : Int)),(28,I a1),(32,sM K06 a0),(33,I (a0.length : Int)),(34,I 0)] (ai (Qer (d := 33) K06 a0) tv) (bk 4 ?_))
  obtain ⟨fl,a5,h⟩ := Qel h
  have hL := K9l _ _ a5 c hc
  refine lp ?_
  rcases fl with ⟨⟩ | r
  ·exact wl hL (Qdz (ri0 hc 2 (Qe3 (impl_FormatSystem_l2_ih _ _ h c hc))))
  refine WpL.mono hL ?_
  rintro _ _ ⟨rfl,hfin⟩
  obtain rfl := os h
  exact ⟨rfl,hfin⟩
 obtain rfl := os h
 exact xt 2 (Qdx (Qe4 (iv [])))
def K9q (s0 : K00) : Option (ByteArray) :=
 (K8t ()) >>= fun a0 =>
 (K9e (s0,a0,0)) >>= fun fl => match fl with
 | .inl () =>
  (K9n (s0,a0,0)) >>= fun fl => match fl with
  | .inl () =>
   some ByteArray.empty
  | .inr r =>
   some r
 | .inr r =>
  some r
def K9r (s0 : K00) (r : ByteArray) : Prop :=
 Q7a Tryd.prog 12 [K0n s0] (.str r) []
theorem K9s : ∀ p r,K9q p = some r → K9r p r := by
 rintro s0 r h
 unfold K9q at h
 refine b0 Tryd.f12 B12 70 [(0,K0n s0)] fun c hc => (rs hc none [nW 1,oN] [(1,.ra 1 0)] [(1,K0m s0)] tv ?_)
 obtain ⟨a0,a1,h⟩ := Qel h
 refine K2y hc none [oc (sM K06 a0),oN] [] [(3,sM K06 a0)] (cq (Q7a.res (r2 := sM K06 a0) (by simp only [share,Q05,K0k]) (Q7a.shr (K8v _ _ a1))) K2e tv) (sN (rss hc none [oN,nQ ⟨[(14,I (a0.length : Int))],[],[]⟩,oN] [(1,.ra 1 0),(3,sM K06 a0),(13,sM K06 a0),(14,I (a0.length : Int)),(15,I 0)] (ai (Qer (d := 14) K06 a0) tv) (bk 0 ?_)))
 obtain ⟨fl,a2,h⟩ := Qel h
 have hL := K9g _ _ a2 c hc
 refine lp ?_
 rcases fl with ⟨⟩ | r
 ·refine wl hL (Qdz (sN (rss hc none [oN,nQ ⟨[(27,I (a0.length : Int))],[],[]⟩,oN] [(1,.ra 1 0),(3,sM K06 a0),(26,sM K06 a0),(27,I (a0.length : Int)),(28,I 0)] (ai (Qer (d := 27) K06 a0) tv) (bk 2 ?_))))
  obtain ⟨fl,a3,h⟩ := Qel h
  have hL := K9p _ _ a3 c hc
  refine lp ?_
  rcases fl with ⟨⟩ | r
  ·refine wl hL ?_
   obtain rfl := os h
   exact Qdz (rs0 hc 1 [(2,.str ByteArray.empty)] [] (rt (rq [true])))
  refine WpL.mono hL ?_
  rintro _ _ ⟨rfl,hfin⟩
  obtain rfl := os h
  exact ⟨.inl rfl,hfin⟩
 refine WpL.mono hL ?_
 rintro _ _ ⟨rfl,hfin⟩
 obtain rfl := os h
 exact ⟨.inl rfl,hfin⟩
def K9t (p : ByteArray × Int) : Option (Int) :=
 match p with
 | (s0,c1) =>
  some (Lib.indexByte s0.data.toList c1.toNat.toUInt8)
def K9u (p : ByteArray × Int) (r : Int) : Prop :=
 match p with
 | (s0,c1) => Q7a Tryd.prog 49 [.str s0,.int .u8 c1] (I r) []
theorem K9v : ∀ p r,K9t p = some r → K9u p r := by
 rintro ⟨s0,c1⟩ r h
 unfold K9t at h
 refine b0 Tryd.f49 B49 8 [(0,.str s0),(1,.int .u8 c1)] fun c hc => ?_
 obtain rfl := os h
 exact K2x hc 1 [] [] [] (rs hc none [oN,oN,oT,oN] [(4,I (Lib.indexByte s0.data.toList c1.toNat.toUInt8))] [] (ai K1e tv) (rt (rq [true])))
def K9w (p : ByteArray × ByteArray) : Option (Int) :=
 match p with
 | (s0,substr1) =>
  ((
   if ((substr1.size : Int) == 0) = true then
    some (true)
   else
    some ((substr1.toList == s0.toList))
  ) : Option (Bool)) >>= fun a0 =>
  if a0 = true then
   some 0
  else
   if ((substr1.size : Int) == 1) = true then
    (Qft substr1 0) >>= fun a1 =>
    (K9t (s0,a1)) >>= fun a2 =>
    some a2
   else
    if (decide ((substr1.size : Int) ≥ (s0.size : Int))) = true then
     some (-1)
    else
     none
def K9x (p : ByteArray × ByteArray) (r : Int) : Prop :=
 match p with
 | (s0,substr1) => Q7a Tryd.prog 47 [.str s0,.str substr1] (I r) []
theorem K9y : ∀ p r,K9w p = some r → K9x p r := by
 rintro ⟨s0,substr1⟩ r h
 unfold K9w at h
 refine b0 Tryd.f47 B47 143 [(0,.str s0),(1,.str substr1)] fun c hc => (K2x hc 1 [] [] [] (K2x hc 3 [] [(5,I (substr1.size : Int))] [] (sN (bk 0 (sN ?_)))))
 obtain ⟨a0,a1,h⟩ := Qel h
 refine wi [] [(16,.bool a0)] ?_ ?_
 ·replace h := a1
  rcases is h with ⟨a2,h⟩ | ⟨a2,h⟩
  ·obtain rfl := os h
   exact rj hc none [oN,oN,oN,o_,o_,o_,oT,oN] (ar 3 (neF a2) (ai a2 tv))
  obtain rfl := os h
  exact rj hc none (nN 6 [oF,oN]) (ar 4 a2 tv)
 clear a1
 refine ic h (fun a3 h => ?_) fun a3 h => ?_
 ·obtain rfl := os h
  exact rs0 hc 1 [(4,I 0)] [] (rt (rq [true]))
 refine K2x hc 3 [16] [(24,.bool ((substr1.size : Int) == 1))] [] (ic h (fun a4 h => ?_) fun a4 h => ?_)
 ·obtain ⟨a5,a6,a7,a8,h⟩ := bq2 h
  obtain rfl := os h
  exact rs hc none [oN,oN,nQ ⟨[(29,.int .u8 a5)],[],[]⟩,oc (I a7),oN] [(4,I a7)] [] (ab (Qfv (d := 29) a6) (Qfu a6) (cq (K9v _ _ a8) K2j tv)) (rt (rq [true]))
 refine rs0 hc 5 [(0,.str s0),(1,.str substr1),(5,I (substr1.size : Int)),(31,.bool (decide ((substr1.size : Int) ≥ (s0.size : Int))))] [] (ic h (fun a9 h => ?_) fun a9 h => ?_)
 ·obtain rfl := os h
  exact rs0 hc 1 [(4,I (-1))] [] (rt (rq [true]))
 refine sN ?_
 cases h
def K9z (p : ByteArray × ByteArray) : Option (ByteArray × ByteArray × Bool) :=
 match p with
 | (s0,sep1) =>
  (K9w (s0,sep1)) >>= fun a0 =>
  if (decide (a0 ≥ 0)) = true then
   (Qev s0 none (some a0)) >>= fun a1 =>
   (Qev s0 (some (wr (a0 + (sep1.size : Int)))) none) >>= fun a2 =>
   some (a1,a2,true)
  else
   some (s0,ByteArray.empty,false)
def Ka0 (p : ByteArray × ByteArray) (r : ByteArray × ByteArray × Bool) : Prop :=
 match p with
 | (s0,sep1) => Q7a Tryd.prog 43 [.str s0,.str sep1] (.tup [.str r.1,.str r.2.1,.bool r.2.2]) []
theorem Ka1 : ∀ p r,K9z p = some r → Ka0 p r := by
 rintro ⟨s0,sep1⟩ r h
 unfold K9z at h
 refine b0 Tryd.f43 B43 23 [(0,.str s0),(1,.str sep1)] fun c hc => (K2x hc 3 [] [] [] (sN ?_))
 obtain ⟨a0,a1,h⟩ := Qel h
 refine rsd hc none [oN,oN,oc (I a0),oN] [] [(7,I a0)] [] (cq (K9y _ _ a1) K2k tv) (K2x hc 2 [] [(12,.bool (decide (a0 ≥ 0)))] [] (ic h (fun a2 h => ?_) fun a2 h => ?_))
 ·obtain ⟨a3,a4,a5,a6,h⟩ := bq2 h
  obtain rfl := os h
  exact rs hc (rx [[0],[0],[2],[0],[0],[0],[0,5],[0,4,5,6],[0,3,4,5,6,7],[3],[10],[11]]) ([oN,oN,nQ ⟨[(15,.str a3)],[],[]⟩]++nN 5 [nQ ⟨[(21,.str a5)],[],[]⟩,oN,oN,oN]) [(4,.str a3),(5,.str a5),(6,.bool true)] [] (ad (Qex (d := 15) a4) (Qew a4) (Qex (d := 21) a6) (Qew a6) tv) (rt (rq [true,true,true]))
 obtain rfl := os h
 exact sk (rs0 hc 4 [(4,.str s0),(5,.str ByteArray.empty),(6,.bool false)] [] (rt (rq [true,true,true])))
def Ka2 (p : ByteArray × ByteArray) : Option (ByteArray × ByteArray × Bool) :=
 match p with
 | (s0,sep1) =>
  (K9z (s0,sep1)) >>= fun (a0,a1,a2) =>
  some (a0,a1,a2)
def Ka3 (p : ByteArray × ByteArray) (r : ByteArray × ByteArray × Bool) : Prop :=
 match p with
 | (s0,sep1) => Q7a Tryd.prog 36 [.str s0,.str sep1] (.tup [.str r.1,.str r.2.1,.bool r.2.2]) []
theorem Ka4 : ∀ p r,Ka2 p = some r → Ka3 p r := by
 rintro ⟨s0,sep1⟩ r h
 unfold Ka2 at h
 refine b0 Tryd.f36 B36 13 [(0,.str s0),(1,.str sep1)] fun c hc => (K2x hc 3 [] [] [] ?_)
 obtain ⟨⟨a0,a1,a2⟩,a3,h⟩ := Qel h
 obtain rfl := os h
 exact rs hc none ([oN,oN,oc (.tup [.str a0,.str a1,.bool a2])]++nN 6 []) [(4,.str a0),(5,.str a1),(6,.bool a2)] [] (cq (Ka1 _ _ a3) K2l tv) (rt (rq [true,true,true]))
def Ka5 (c : Ctx) : (Unit) ⊕ ((K00 × Bool)) → Exit → Q0d → Prop
 | .inl _ => Qe7 c (.exit 0) (mkS [(2,.ra 1 0)] [(1,zS)])
 | .inr r => Qeg TIx Tryd.f37 [] (.tup [K0n r.1,.bool r.2])
def Ka6 (p : ByteArray × (List K02) × Int) : Option ((Unit) ⊕ ((K00 × Bool))) :=
 match p with
 | (t0,a0,a1) =>
  if (decide (a1 < (a0.length : Int))) = true then
  (idx a0 a1) >>= fun a2 =>
  if (a2.ftext.toList == t0.toList) = true then
  some (.inr (a2.fs,true))
  else
  Ka6 (t0,a0,(wr (a1 + 1)))
  else
  some (.inl ())
 partial_fixpoint
def Ka7 (p : ByteArray × (List K02) × Int) (fl : (Unit) ⊕ ((K00 × Bool))) : Prop :=
 match p with
 | (t0,a0,a1) => ∀ c : Ctx,c.nt = 20 → WpL Tryd.prog c (cl (cl (cr (cl (cr B37))))) (Ka5 c fl) (mkS [(0,.str t0),(2,.ra 1 0),(6,sM K06 a0),(7,I (a0.length : Int)),(8,I a1)] [(1,zS)])
theorem Ka8 : ∀ p r,Ka6 p = some r → Ka7 p r := by
 refine Ka6.partial_correctness Ka7 ?_
 rintro impl_simpleNamed_l0_f impl_simpleNamed_l0_ih ⟨t0,a0,a1⟩ r h
 intro c hc
 refine WpL.step (K2z hc 1 [] [(9,.bool (decide (a1 < (a0.length : Int))))] (sN (ic h (fun a2 h => ?_) fun a2 h => ?_)))
 ·refine sk (sN (bk 1 ?_))
  obtain ⟨a3,a4,h⟩ := Qel h
  refine rsd hc none [eL (K0q a3),oN,nW 3,oN] [9] [(5,.ra 3 0)] [(1,zS),(3,K0p a3)] (ai (Qep a4 (K0g a3)) tv) (K2z hc 4 [] [(15,.bool (a3.ftext.toList == t0.toList))] (ic h (fun a5 h => ?_) fun a5 h => ?_))
  ·obtain rfl := os h
   exact rs0 hc 4 [(2,.ra 1 0),(3,.bool true)] [(1,.box [I a3.fs.fSize,.sl (List.map I a3.fs.fPlus),.sl (List.map I a3.fs.fTimes),.sl (List.map AV.bool a3.fs.fBelow)])] (rt (re [false,true]))
  exact sk (ri0 hc 2 (Qe3 (impl_simpleNamed_l0_ih _ _ h c hc)))
 obtain rfl := os h
 exact xt 0 (Qdx (Qe4 (iv [])))
def Ka9 (t0 : ByteArray) : Option (K00 × Bool) :=
 (K8t ()) >>= fun a0 =>
 (Ka6 (t0,a0,0)) >>= fun fl => match fl with
 | .inl () =>
  some ((K00.mk 0 [] [] []),false)
 | .inr r =>
  some r
def Kaa (t0 : ByteArray) (r : K00 × Bool) : Prop :=
 Q7a Tryd.prog 37 [.str t0] (.tup [K0n r.1,.bool r.2]) []
theorem Kab : ∀ p r,Ka9 p = some r → Kaa p r := by
 rintro t0 r h
 unfold Ka9 at h
 refine b0 Tryd.f37 B37 20 [(0,.str t0)] fun c hc => (rsd hc none [nW 1,oN] [] [(2,.ra 1 0)] [(1,zS)] tv (sN ?_))
 obtain ⟨a0,a1,h⟩ := Qel h
 refine rss hc none [oc (sM K06 a0),nQ ⟨[(7,I (a0.length : Int))],[],[]⟩,oN] [(0,.str t0),(2,.ra 1 0),(6,sM K06 a0),(7,I (a0.length : Int)),(8,I 0)] (cq (Q7a.res (r2 := sM K06 a0) (by simp only [share,Q05,K0k]) (Q7a.shr (K8v _ _ a1))) K2e (ai (Qer (d := 7) K06 a0) tv)) (bk 0 ?_)
 obtain ⟨fl,a2,h⟩ := Qel h
 have hL := Ka8 _ _ a2 c hc
 refine lp ?_
 rcases fl with ⟨⟩ | r
 ·refine wl hL ?_
  obtain rfl := os h
  exact Qdz (K2z hc 3 [] [(3,.bool false)] (rt (rq [false,true])))
 refine WpL.mono hL ?_
 rintro _ _ ⟨rfl,hfin⟩
 obtain rfl := os h
 exact ⟨.inl rfl,hfin⟩
def Kac (t0 : ByteArray) : Option (K00 × Bool) :=
 (Ka2 (t0,(ByteArray.mk #[42]))) >>= fun (a0,a1,a2) =>
 (Ka9 a0) >>= fun (a3,a4) =>
 ((
 if a4 = true then
 some ((!a2))
 else
 some (true)
 ) : Option (Bool)) >>= fun a5 =>
 if a5 = true then
 some (a3,a4)
 else
 (Ka9 a1) >>= fun (a6,a7) =>
 if a7 = true then
 (K82 (a3,a6)) >>= fun (a8,a9) =>
 some (a8,a9)
 else
 some ((K00.mk 0 [] [] []),false)
def Kad (t0 : ByteArray) (r : K00 × Bool) : Prop :=
 Q7a Tryd.prog 11 [.str t0] (.tup [K0n r.1,.bool r.2]) []
theorem Kae : ∀ p r,Kac p = some r → Kad p r := by
 rintro t0 r h
 unfold Kac at h
 refine b0 Tryd.f11 B11 42 [(0,.str t0)] fun c hc => (rsd hc none [nW 1,oN] [] [(2,.ra 1 0)] [(1,zS)] tv ?_)
 obtain ⟨⟨a0,a1,a2⟩,a3,h⟩ := Qel h
 refine K2y hc none ([oN,oc (.tup [.str a0,.str a1,.bool a2])]++nN 7 []) [0] [(4,.str a0),(5,.str a1),(6,.bool a2)] (cq (Ka4 _ _ a3) K2m tv) ?_
 obtain ⟨⟨a4,a5⟩,a6,h⟩ := Qel h
 refine rsd hc none [oN,oc (.tup [K0n a4,.bool a5]),oN,oN,oN,nW 2,oN,oN] [4] [(7,.ra 2 0),(8,.bool a5)] [(1,zS),(2,K0m a4)] (cq (Kab _ _ a6) K2n tv) (sN (sN ?_))
 obtain ⟨a7,a8,h⟩ := Qel h
 refine wi [6] [(26,.bool a7)] ?_ ?_
 ·replace h := a8
  rcases is h with ⟨a9,h⟩ | ⟨a9,h⟩
  ·obtain rfl := os h
   exact rj hc none (nN 5 [oF]) (ar 3 (nF a9) tv)
  obtain rfl := os h
  exact rj hc none [oN,oN,oN,o_,o_,oT] (ar 2 (neF (nT a9)) (ai (nT a9) tv))
 clear a8
 refine ic h (fun b1 h => ?_) fun b1 h => ?_
 ·obtain rfl := os h
  exact rs0 hc 4 [(2,.ra 1 0),(3,.bool a5)] [(1,K0m a4)] (rt (rq [false,true]))
 refine sk ?_
 obtain ⟨⟨b2,b3⟩,b4,h⟩ := Qel h
 refine rsd hc none [oN,oc (.tup [K0n b2,.bool b3]),oN,oN,oN,nW 3,oN,oN] [26,8,5] [(8,.bool b3),(9,.ra 3 0)] [(1,zS),(2,K0m a4),(3,K0m b2)] (cq (Kab _ _ b4) K2n tv) (sN (K2w hc 2 [(2,.ra 1 0),(7,.ra 2 0),(9,.ra 3 0),(35,.bool (!b3))] ?_))
 rcases is h with ⟨b5,h⟩ | ⟨b5,h⟩
 ·refine cF (!b3) (nF b5) (sk ?_)
  obtain ⟨⟨b6,b7⟩,b8,h⟩ := Qel h
  refine rs hc none ([oN,oN,some (.call (.tup [K0s b6,.bool b7]) [] 4)]++nN 4 []) [(2,.ra 1 0),(3,.bool b7)] [(1,.box [I b6.fSize,.rs 4,.rs 5,.rs 6]),(4,rI b6.fPlus),(5,rI b6.fTimes),(6,rM AV.bool b6.fBelow)] (cq (K84 _ _ b8) K29 tv) (vz 4 (Qfd b6.fPlus) [(2,.ra 1 0),(3,.bool b7)] [(1,.box [I b6.fSize,sI b6.fPlus,.rs 5,.rs 6]),(5,rI b6.fTimes),(6,rM AV.bool b6.fBelow)] (vz 5 (Qfd b6.fTimes) [(2,.ra 1 0),(3,.bool b7)] [(1,.box [I b6.fSize,sI b6.fPlus,sI b6.fTimes,.rs 6]),(6,rM AV.bool b6.fBelow)] (vz 6 (Qff b6.fBelow) [(2,.ra 1 0),(3,.bool b7)] [(1,K0m b6)] ?_)))
  obtain rfl := os h
  exact rt (rq [false,true])
 refine cT (!b3) (nT b5) ?_
 obtain rfl := os h
 exact K2x hc 3 [7,9,35] [(3,.bool false)] [(1,zS)] (rt (rq [false,true]))
def Kaf (c : Ctx) : (Unit) ⊕ (Bool) → Exit → Q0d → Prop
 | .inl _ => Qe7 c (.exit 0) (mkS [] [])
 | .inr r => Qeg TIx Tryd.f40 [] (.bool r)
def Kag (p : (List Int) × (List Int) × Int) : Option ((Unit) ⊕ (Bool)) :=
 match p with
 | (a0,b1,a1) =>
  if (decide (a1 < (a0.length : Int))) = true then
  (idx a0 a1) >>= fun a2 =>
  (idx b1 a1) >>= fun a3 =>
  if (a2 != a3) = true then
  some (.inr false)
  else
  Kag (a0,b1,(wr (a1 + 1)))
  else
  some (.inl ())
 partial_fixpoint
def Kah (p : (List Int) × (List Int) × Int) (fl : (Unit) ⊕ (Bool)) : Prop :=
 match p with
 | (a0,b1,a1) => ∀ c : Ctx,c.nt = 26 → WpL Tryd.prog c (cl (cl (cr (cl (cr (cr B40)))))) (Kaf c fl) (mkS [(0,sI a0),(1,sI b1),(5,I a1)] [])
theorem Kai : ∀ p r,Kag p = some r → Kah p r := by
 refine Kag.partial_correctness Kah ?_
 rintro laws_ints_l0_f laws_ints_l0_ih ⟨a0,b1,a1⟩ r h
 intro c hc
 refine WpL.step (sN (rsd hc none [oN,oN,nQ ⟨[(13,I (a0.length : Int))],[],[]⟩,oN] [] [(14,.bool (decide (a1 < (a0.length : Int))))] [] (ai (Qer (d := 13) I a0) tv) (ic h (fun a2 h => ?_) fun a2 h => ?_)))
 ·refine sk (sN (bk 1 ?_))
  obtain ⟨a3,a4,a5,a6,h⟩ := bq2 h
  refine rsd hc (rx [[0],[0],[2],[3],[0],[0],[0,4,5],[0,4,5,6],[8]]) [oN,oN,eL (I a3),oN,oN,oN,eL (I a5),oN,oN] [14] [(25,.bool (a3 != a5))] [] (ab (ix a4) (ix a6) tv) (ic h (fun a7 h => ?_) fun a7 h => ?_)
  ·obtain rfl := os h
   exact rs0 hc 1 [(4,.bool false)] [] (rt (re [true]))
  exact sk (ri0 hc 3 (Qe3 (laws_ints_l0_ih _ _ h c hc)))
 obtain rfl := os h
 exact xt 0 (Qdx (Qe4 (iv [])))
def Kaj (p : (List Int) × (List Int)) : Option (Bool) :=
 match p with
 | (a0,b1) =>
  if ((a0.length : Int) != (b1.length : Int)) = true then
  some false
  else
  (Kag (a0,b1,0)) >>= fun fl => match fl with
  | .inl () =>
   some true
  | .inr r =>
   some r
def Kak (p : (List Int) × (List Int)) (r : Bool) : Prop :=
 match p with
 | (a0,b1) => Q7a Tryd.prog 40 [sI a0,sI b1] (.bool r) []
theorem Kal : ∀ p r,Kaj p = some r → Kak p r := by
 rintro ⟨a0,b1⟩ r h
 unfold Kaj at h
 refine b0 Tryd.f40 B40 26 [(0,sI a0),(1,sI b1)] fun c hc => (K2x hc 1 [] [] [] (sN (rsd hc none [oN,nQ ⟨[(7,I (a0.length : Int))],[],[]⟩,oN,nQ ⟨[(9,I (b1.length : Int))],[],[]⟩,oN] [] [(10,.bool ((a0.length : Int) != (b1.length : Int)))] [] (ab (Qer (d := 7) I a0) (Qer (d := 9) I b1) tv) (ic h (fun a1 h => ?_) fun a1 h => ?_))))
 ·obtain rfl := os h
  exact rs0 hc 1 [(4,.bool false)] [] (rt (rq [true]))
 refine sk (sN (rs0 hc 1 [(0,sI a0),(1,sI b1),(5,I 0)] [] (bk 0 ?_)))
 obtain ⟨fl,a2,h⟩ := Qel h
 have hL := Kai _ _ a2 c hc
 refine lp ?_
 rcases fl with ⟨⟩ | r
 ·refine wl hL ?_
  obtain rfl := os h
  exact Qdz (rs0 hc 1 [(4,.bool true)] [] (rt (rq [true])))
 refine WpL.mono hL ?_
 rintro _ _ ⟨rfl,hfin⟩
 obtain rfl := os h
 exact ⟨.inl rfl,hfin⟩
def Kam (c : Ctx) : (Unit) ⊕ (Bool) → Exit → Q0d → Prop
 | .inl _ => Qe7 c (.exit 0) (mkS [] [])
 | .inr r => Qeg TIx Tryd.f13 [] (.bool r)
def Kan (p : K00 × K00 × Int) : Option ((Unit) ⊕ (Bool)) :=
 match p with
 | (a0,b1,a1) =>
  if (decide (a1 < (a0.fBelow.length : Int))) = true then
  (idx a0.fBelow a1) >>= fun a2 =>
  (idx b1.fBelow a1) >>= fun a3 =>
  if (a2 == a3) = true then
  Kan (a0,b1,(wr (a1 + 1)))
  else
  some (.inr false)
  else
  some (.inl ())
 partial_fixpoint
def Kao (p : K00 × K00 × Int) (fl : (Unit) ⊕ (Bool)) : Prop :=
 match p with
 | (a0,b1,a1) => ∀ c : Ctx,c.nt = 54 → WpL Tryd.prog c (cl (cl (cr (cl (cr (cr B13)))))) (Kam c fl) (mkS [(2,.ra 1 0),(3,.ra 2 0),(5,I a1)] [(1,K0m a0),(2,K0m b1)])
theorem Kap : ∀ p r,Kan p = some r → Kao p r := by
 refine Kan.partial_correctness Kao ?_
 rintro laws_equal_l0_f laws_equal_l0_ih ⟨a0,b1,a1⟩ r h
 intro c hc
 refine WpL.step (sN (K2y hc none [oN,oN,oN,nQ ⟨[(39,I (a0.fBelow.length : Int))],[],[]⟩,oN] [] [(40,.bool (decide (a1 < (a0.fBelow.length : Int))))] (ai (Qer (d := 39) AV.bool a0.fBelow) tv) (ic h (fun a2 h => ?_) fun a2 h => ?_)))
 ·refine sk (sN (bk 1 ?_))
  obtain ⟨a3,a4,a5,a6,h⟩ := bq2 h
  refine K2y hc (rx [[0],[1],[0],[3],[4],[0],[0,5],[0],[0,5,6,7],[0,5,6,7,8],[10]]) ([oN,oN,oN,eB a3]++nN 4 [eB a5,oN,oN]) [40] [(53,.bool (!(a3 == a5)))] (ab (xB a4) (xB a6) tv) ?_
  rcases is h with ⟨a7,h⟩ | ⟨a7,h⟩
  ·exact cF ((!(a3 == a5))) (nF a7) (sk (ri0 hc 3 (Qe3 (laws_equal_l0_ih _ _ h c hc))))
  refine cT ((!(a3 == a5))) (nT a7) ?_
  obtain rfl := os h
  exact rs0 hc 1 [(4,.bool false)] [] (rt (re [true]))
 obtain rfl := os h
 exact xt 0 (Qdx (Qe4 (iv [])))
def Kaq (p : K00 × K00) : Option (Bool) :=
 match p with
 | (a0,b1) =>
  ((
  if (a0.fSize != b1.fSize) = true then
   some (true)
  else
   (Kaj (a0.fPlus,b1.fPlus)) >>= fun a1 =>
   if a1 = true then
   (Kaj (a0.fTimes,b1.fTimes)) >>= fun a2 =>
   if a2 = true then
   some (((a0.fBelow.length : Int) != (b1.fBelow.length : Int)))
   else
   some (true)
   else
   some (true)
  ) : Option (Bool)) >>= fun a3 =>
  if a3 = true then
  some false
  else
  (Kan (a0,b1,0)) >>= fun fl => match fl with
  | .inl () =>
   some true
  | .inr r =>
   some r
def Kar (p : K00 × K00) (r : Bool) : Prop :=
 match p with
 | (a0,b1) => Q7a Tryd.prog 13 [K0n a0,K0n b1] (.bool r) []
theorem Kas : ∀ p r,Kaq p = some r → Kar p r := by
 rintro ⟨a0,b1⟩ r h
 unfold Kaq at h
 refine b0 Tryd.f13 B13 54 [(0,K0n a0),(1,K0n b1)] fun c hc => (rs hc none [nW 1,nW 2,oN] [(2,.ra 1 0),(3,.ra 2 0)] [(1,K0m a0),(2,K0m b1)] tv (sN (sN ?_)))
 obtain ⟨a1,a2,h⟩ := Qel h
 refine wi [] [(35,.bool a1)] ?_ ?_
 ·replace h := a2
  rcases is h with ⟨a3,h⟩ | ⟨a3,h⟩
  ·obtain rfl := os h
   exact rj hc none (nN 6 (n_ 6 ([oT,oN]++n_ 6 ([oT,oN]++n_ 7 [oT])))) (ar 6 (neF a3) (ai a3 (ar 6 nf (ai tt (ar 7 nf (ai tt tv))))))
  obtain ⟨a4,a5,h⟩ := Qel h
  rcases is h with ⟨a6,h⟩ | ⟨a6,h⟩
  ·obtain ⟨a7,a8,h⟩ := Qel h
   rcases is h with ⟨a9,h⟩ | ⟨a9,h⟩
   ·obtain rfl := os h
    exact rj hc none (nN 10 ([oc (.bool a4),oN,oF]++nN 5 [oc (.bool a7),oN,oF,oN,oN,oN,nQ ⟨[(30,I (a0.fBelow.length : Int))],[],[]⟩,oN,oN,nQ ⟨[(33,I (b1.fBelow.length : Int))],[],[]⟩,oN,oF])) (ar 5 a3 (cq (Kal _ _ a5) K2p (ar 2 a3 (ar 5 (nF a6) (cq (Kal _ _ a8) K2p (ar 2 (nF a6) (ar 3 (nF a9) (ai (Qer (d := 30) AV.bool a0.fBelow) (ar 3 (nF a9) (ai (Qer (d := 33) AV.bool b1.fBelow) (ar 2 (nF a9) tv)))))))))))
   obtain rfl := os h
   exact rj hc none (nN 10 ([oc (.bool a4),oN,oF]++nN 5 ([oc (.bool a7),oN,oF,oN]++n_ 7 [oT]))) (ar 5 a3 (cq (Kal _ _ a5) K2p (ar 2 a3 (ar 5 (nF a6) (cq (Kal _ _ a8) K2p (ar 2 (nF a6) (ar 7 (neF (nT a9)) (ai (nT a9) tv))))))))
  obtain rfl := os h
  exact rj hc none (nN 10 ([oc (.bool a4),oN,oF,oN]++n_ 6 ([oT,oN]++n_ 7 [oT]))) (ar 5 a3 (cq (Kal _ _ a5) K2p (ar 2 a3 (ar 6 (neF (nT a6)) (ai (nT a6) (ar 7 nf (ai tt tv)))))))
 clear a2
 refine ic h (fun b2 h => ?_) fun b2 h => ?_
 ·obtain rfl := os h
  exact rs0 hc 1 [(4,.bool false)] [] (rt (rq [true]))
 refine sk (sN (K2w hc 1 [(2,.ra 1 0),(3,.ra 2 0),(5,I 0)] (bk 0 ?_)))
 obtain ⟨fl,b3,h⟩ := Qel h
 have hL := Kap _ _ b3 c hc
 refine lp ?_
 rcases fl with ⟨⟩ | r
 ·refine wl hL ?_
  obtain rfl := os h
  exact Qdz (rs0 hc 1 [(4,.bool true)] [] (rt (rq [true])))
 refine WpL.mono hL ?_
 rintro _ _ ⟨rfl,hfin⟩
 obtain rfl := os h
 exact ⟨.inl rfl,hfin⟩
def Kat (code0 : (List Int)) : Option (Bool) :=
 (K32 code0) >>= fun a0 =>
 if a0 = true then
 some true
 else
 (K35 (code0,0)) >>= fun a1 =>
 (K3y (wr (1 + (Int.tmod a1 6)))) >>= fun a2 =>
 (K35 (code0,1)) >>= fun a3 =>
 ((
 if ((Int.tmod a3 3) == 0) = true then
 (K35 (code0,0)) >>= fun a4 =>
 (K4i (wr (1 + (Int.tmod a4 6)))) >>= fun a5 =>
 some ((a5.fSize,a5.fPlus,a5.fTimes,a5.fBelow))
 else
 ((
 if ((Int.tmod a3 3) == 1) = true then
 (K35 (code0,0)) >>= fun a6 =>
 (K5c (wr (1 + (Int.tmod a6 6)))) >>= fun a7 =>
 some ((a7.fSize,a7.fPlus,a7.fTimes,a7.fBelow))
 else
 some ((a2.fSize,a2.fPlus,a2.fTimes,a2.fBelow))
 ) : Option (Int × (List Int) × (List Int) × (List Bool))) >>= fun (a8,a9,b1,b2) =>
 some ((a8,a9,b1,b2))
 ) : Option (Int × (List Int) × (List Int) × (List Bool))) >>= fun (b3,b4,b5,b6) =>
 (K5c 1) >>= fun b7 =>
 (K82 ((K00.mk b3 b4 b5 b6),b7)) >>= fun (b8,b9) =>
 ((
 (K6p (K00.mk b3 b4 b5 b6)) >>= fun c0 =>
 if c0 = true then
 (K6p b7) >>= fun c1 =>
 if c1 = true then
 if b9 = true then
 (K6p b8) >>= fun c2 =>
 some ((!c2))
 else
 some (true)
 else
 some (true)
 else
 some (true)
 ) : Option (Bool)) >>= fun c3 =>
 if c3 = true then
 some false
 else
 (K9q (K00.mk b3 b4 b5 b6)) >>= fun c4 =>
 (Kac c4) >>= fun (c5,c6) =>
 (K9q b8) >>= fun c7 =>
 (Kac c7) >>= fun (c8,c9) =>
 ((
 if c6 = true then
 if c9 = true then
 (Kaq (c5,(K00.mk b3 b4 b5 b6))) >>= fun d0 =>
 if d0 = true then
 (Kaq (c8,b8)) >>= fun d1 =>
 some (d1)
 else
 some (false)
 else
 some (false)
 else
 some (false)
 ) : Option (Bool)) >>= fun d2 =>
 some d2
def Kau (code0 : (List Int)) (r : Bool) : Prop :=
 Q7a Tryd.prog 3 [sM U8 code0] (.bool r) []
theorem Kav : ∀ p r,Kat p = some r → Kau p r := by
 rintro code0 r h
 unfold Kat at h
 refine b0 Tryd.f3 B3 85 [(0,sM U8 code0)] fun c hc => (K2x hc 1 [] [] [] (sN ?_))
 obtain ⟨a0,a1,h⟩ := Qel h
 refine rsd hc none [oN,oc (.bool a0)] [] [(12,.bool a0)] [] (cq (K34 _ _ a1) K1f tv) (ic h (fun a2 h => ?_) fun a2 h => ?_)
 ·obtain rfl := os h
  exact rs0 hc 1 [(2,.bool true)] [] (rt (rq [true]))
 refine sk ?_
 obtain ⟨a3,a4,a5,a6,h⟩ := bq2 h
 refine rsd hc none [oN,oc (I a3),oN,oN,oc (K0s a5),nW 4,oN] [12] [(3,.ra 4 0)] [(1,rI a5.fPlus),(2,rI a5.fTimes),(3,rM AV.bool a5.fBelow),(4,.box [I a5.fSize,.rs 1,.rs 2,.rs 3])] (cq (K37 _ _ a4) K1g (ai ((by decide) : (6 : Int) ≠ 0) (cq (K40 _ _ a6) K1n tv))) (sN ?_)
 obtain ⟨a7,a8,h⟩ := Qel h
 refine K2y hc none [oN,oc (I a7),oN] [] [(20,I (Int.tmod a7 3))] (cq (K37 _ _ a8) K1g (ai ((by decide) : (3 : Int) ≠ 0) tv)) (bk 0 (K2z hc 2 [] [(21,.bool ((Int.tmod a7 3) == 0))] ?_))
 obtain ⟨⟨a9,b1,b2,b3⟩,b4,h⟩ := Qel h
 refine Wp.into (x := .normal) (mkS [(3,.ra 4 0)] [(4,.box [I a9,.rs 5,.rs 6,.rs 7]),(5,rI b1),(6,rI b2),(7,rM AV.bool b3)]) ?_ ?_
 ·replace h := b4
  refine ic h (fun b5 h => ?_) fun b5 h => ?_
  ·obtain ⟨b6,b7,b8,b9,h⟩ := bq2 h
   obtain ⟨rfl,hq0⟩ := Prod.mk.inj (os h)
   obtain ⟨rfl,hq1⟩ := Prod.mk.inj (hq0)
   obtain ⟨rfl,rfl⟩ := Prod.mk.inj (hq1)
   exact rj hc none [oN,oc (I b6),oN,oN,some (.call (K0s b8) [] 5),oN] (cq (K37 _ _ b7) K1g (ai ((by decide) : (6 : Int) ≠ 0) (cq (K4k _ _ b9) K1p tv)))
  refine K2w hc 2 [(0,sM U8 code0),(3,.ra 4 0),(28,.bool ((Int.tmod a7 3) == 1))] ?_
  obtain ⟨⟨c0,c1,c2,c3⟩,c4,h⟩ := Qel h
  refine Wp.into (x := .normal) (mkS [(3,.ra 4 0)] [(4,.box [I c0,.rs 8,.rs 9,.rs 10]),(8,rI c1),(9,rI c2),(10,rM AV.bool c3)]) ?_ ?_
  ·replace h := c4
   refine ic h (fun c5 h => ?_) fun c5 h => ?_
   ·obtain ⟨c6,c7,c8,c9,h⟩ := bq2 h
    obtain ⟨rfl,hq0⟩ := Prod.mk.inj (os h)
    obtain ⟨rfl,hq1⟩ := Prod.mk.inj (hq0)
    obtain ⟨rfl,rfl⟩ := Prod.mk.inj (hq1)
    exact rj hc none [oN,oc (I c6),oN,oN,some (.call (K0s c8) [] 8),oN] (cq (K37 _ _ c7) K1g (ai ((by decide) : (6 : Int) ≠ 0) (cq (K5e _ _ c9) K1u tv)))
   refine sk ?_
   obtain ⟨rfl,hq0⟩ := Prod.mk.inj (os h)
   obtain ⟨rfl,hq1⟩ := Prod.mk.inj (hq0)
   obtain ⟨rfl,rfl⟩ := Prod.mk.inj (hq1)
   exact iv [(8,1),(9,2),(10,3)]
  clear c4
  obtain ⟨rfl,hq0⟩ := Prod.mk.inj (os h)
  obtain ⟨rfl,hq1⟩ := Prod.mk.inj (hq0)
  obtain ⟨rfl,rfl⟩ := Prod.mk.inj (hq1)
  exact iv [(5,8),(6,9),(7,10)]
 clear b4
 obtain ⟨d0,d1,h⟩ := Qel h
 refine rsd hc none [some (.call (K0s d0) [] 11),nW 14,oN] [] [(4,.ra 14 0)] [(4,.box [I a9,.rs 5,.rs 6,.rs 7]),(5,rI b1),(6,rI b2),(7,rM AV.bool b3),(11,rI d0.fPlus),(12,rI d0.fTimes),(13,rM AV.bool d0.fBelow),(14,.box [I d0.fSize,.rs 11,.rs 12,.rs 13])] (cq (K5e _ _ d1) K1u tv) ?_
 obtain ⟨⟨d2,d3⟩,d4,h⟩ := Qel h
 refine rsd hc none [oN,oN,some (.call (.tup [K0s d2,.bool d3]) [] 15),oN,oN,oN,nW 18,oN,oN] [] [(5,.ra 18 0),(6,.bool d3)] [(4,.box [I a9,.rs 5,.rs 6,.rs 7]),(5,rI b1),(6,rI b2),(7,rM AV.bool b3),(11,rI d0.fPlus),(12,rI d0.fTimes),(13,rM AV.bool d0.fBelow),(14,.box [I d0.fSize,.rs 11,.rs 12,.rs 13]),(15,rI d2.fPlus),(16,rI d2.fTimes),(17,rM AV.bool d2.fBelow),(18,.box [I d2.fSize,.rs 15,.rs 16,.rs 17])] (ac (Q7a.args (A1 := [.agg [I a9,.sl (Q05 (List.map I b1)),.sl (Q05 (List.map I b2)),.sl (Q05 (List.map AV.bool b3))],K0t d0]) (A2 := [.agg [I a9,sI b1,sI b2,sB b3],K0n d0]) (by simp only [K0t,List.map_nil,Qff,Qfd]) (K84 _ _ d4)) K29 (Or.inr (Qfn (Qfn rfl (Qfn (Qfl Qfh d2.fPlus) (Qfn (Qfl Qfh d2.fTimes) (Qfn (Qfl Qfj d2.fBelow) rfl)))) (Qfn rfl rfl)) : ([5,6,7,11,12,13] : List Nat) = [] ∨ noSh (.tup [K0s d2,.bool d3]) = true) tv) (sN (sN ?_))
 obtain ⟨d5,d6,h⟩ := Qel h
 refine Wp.into (x := .normal) (mkS [(3,.ra 4 0),(5,.ra 18 0),(58,.bool d5)] [(4,.box [I a9,.rs 5,.rs 6,.rs 7]),(5,rI b1),(6,rI b2),(7,rM AV.bool b3),(15,rI d2.fPlus),(16,rI d2.fTimes),(17,rM AV.bool d2.fBelow),(18,.box [I d2.fSize,.rs 15,.rs 16,.rs 17])]) ?_ ?_
 ·replace h := d6
  obtain ⟨d7,d8,h⟩ := Qel h
  rcases is h with ⟨d9,h⟩ | ⟨d9,h⟩
  ·obtain ⟨e0,e1,h⟩ := Qel h
   rcases is h with ⟨e2,h⟩ | ⟨e2,h⟩
   ·rcases is h with ⟨e3,h⟩ | ⟨e3,h⟩
    ·obtain ⟨e4,e5,h⟩ := Qel h
     obtain rfl := os h
     exact rj hc none [oN,oc (.bool d7),oN,oN,oN,oc (.bool e0),oN,oF,oN,oN,oN,oF,oN,oN,oc (.bool e4),oN,oF] (ac (Q7a.args (A1 := [.agg [I a9,.sl (Q05 (List.map I b1)),.sl (Q05 (List.map I b2)),.sl (Q05 (List.map AV.bool b3))]]) (A2 := [.agg [I a9,sI b1,sI b2,sB b3]]) (by simp only [List.map_nil,Qff,Qfd]) (K6r _ _ d8)) K21 (Or.inr rfl : ([5,6,7] : List Nat) = [] ∨ noSh (.bool d7) = true) (ar 2 (nF d9) (ac (Q7a.args (A1 := [K0t d0]) (A2 := [K0n d0]) (by simp only [K0t,List.map_nil,Qff,Qfd]) (K6r _ _ e1)) K21 (Or.inr rfl : ([11,12,13] : List Nat) = [] ∨ noSh (.bool e0) = true) (ar 2 (nF d9) (ar 3 (nF e2) (ar 2 (nF e3) (ac (Q7a.args (A1 := [K0t d2]) (A2 := [K0n d2]) (by simp only [K0t,List.map_nil,Qff,Qfd]) (K6r _ _ e5)) K21 (Or.inr rfl : ([15,16,17] : List Nat) = [] ∨ noSh (.bool e4) = true) (ar 2 (nF e3) tv))))))))
    obtain rfl := os h
    exact rj hc none [oN,oc (.bool d7),oN,oN,oN,oc (.bool e0),oN,oF,oN,oN,oN,oF,oN,o_,o_,o_,oT] (ac (Q7a.args (A1 := [.agg [I a9,.sl (Q05 (List.map I b1)),.sl (Q05 (List.map I b2)),.sl (Q05 (List.map AV.bool b3))]]) (A2 := [.agg [I a9,sI b1,sI b2,sB b3]]) (by simp only [List.map_nil,Qff,Qfd]) (K6r _ _ d8)) K21 (Or.inr rfl : ([5,6,7] : List Nat) = [] ∨ noSh (.bool d7) = true) (ar 2 (nF d9) (ac (Q7a.args (A1 := [K0t d0]) (A2 := [K0n d0]) (by simp only [K0t,List.map_nil,Qff,Qfd]) (K6r _ _ e1)) K21 (Or.inr rfl : ([11,12,13] : List Nat) = [] ∨ noSh (.bool e0) = true) (ar 2 (nF d9) (ar 3 (nF e2) (ar 3 (neF (nT e3)) (ai (nT e3) tv)))))))
   obtain rfl := os h
   exact rj hc none [oN,oc (.bool d7),oN,oN,oN,oc (.bool e0),oN,oF,oN,o_,o_,oT,oN,o_,o_,o_,oT] (ac (Q7a.args (A1 := [.agg [I a9,.sl (Q05 (List.map I b1)),.sl (Q05 (List.map I b2)),.sl (Q05 (List.map AV.bool b3))]]) (A2 := [.agg [I a9,sI b1,sI b2,sB b3]]) (by simp only [List.map_nil,Qff,Qfd]) (K6r _ _ d8)) K21 (Or.inr rfl : ([5,6,7] : List Nat) = [] ∨ noSh (.bool d7) = true) (ar 2 (nF d9) (ac (Q7a.args (A1 := [K0t d0]) (A2 := [K0n d0]) (by simp only [K0t,List.map_nil,Qff,Qfd]) (K6r _ _ e1)) K21 (Or.inr rfl : ([11,12,13] : List Nat) = [] ∨ noSh (.bool e0) = true) (ar 2 (nF d9) (ar 2 (neF (nT e2)) (ai (nT e2) (ar 3 nf (ai tt tv))))))))
  obtain rfl := os h
  exact rj hc none [oN,oc (.bool d7),oN,oN,o_,o_,o_,oT,oN,o_,o_,oT,oN,o_,o_,o_,oT] (ac (Q7a.args (A1 := [.agg [I a9,.sl (Q05 (List.map I b1)),.sl (Q05 (List.map I b2)),.sl (Q05 (List.map AV.bool b3))]]) (A2 := [.agg [I a9,sI b1,sI b2,sB b3]]) (by simp only [List.map_nil,Qff,Qfd]) (K6r _ _ d8)) K21 (Or.inr rfl : ([5,6,7] : List Nat) = [] ∨ noSh (.bool d7) = true) (ar 3 (neF (nT d9)) (ai (nT d9) (ar 2 nf (ai tt (ar 3 nf (ai tt tv)))))))
 clear d6
 refine ic h (fun e7 h => ?_) fun e7 h => ?_
 ·obtain rfl := os h
  exact rs0 hc 1 [(2,.bool false)] [] (rt (rq [true]))
 refine sk ?_
 obtain ⟨e8,e9,⟨f0,f1⟩,f2,h⟩ := bq2 h
 refine rsd hc none [oN,oc (.str e8),oc (.tup [K0n f0,.bool f1]),oN,oN,oN,nW 19,oN,oN] [58] [(7,.ra 19 0),(8,.bool f1)] [(4,.box [I a9,.rs 5,.rs 6,.rs 7]),(5,rI b1),(6,rI b2),(7,rM AV.bool b3),(15,rI d2.fPlus),(16,rI d2.fTimes),(17,rM AV.bool d2.fBelow),(18,.box [I d2.fSize,.rs 15,.rs 16,.rs 17]),(19,K0m f0)] (ac (Q7a.args (A1 := [.agg [I a9,.sl (Q05 (List.map I b1)),.sl (Q05 (List.map I b2)),.sl (Q05 (List.map AV.bool b3))]]) (A2 := [.agg [I a9,sI b1,sI b2,sB b3]]) (by simp only [List.map_nil,Qff,Qfd]) (K9s _ _ e9)) K2i (Or.inr rfl : ([5,6,7] : List Nat) = [] ∨ noSh (.str e8) = true) (cq (Kae _ _ f2) K2o tv)) ?_
 obtain ⟨f4,f5,⟨f6,f7⟩,f8,h⟩ := bq2 h
 refine rsd hc none [oN,oc (.str f4),oc (.tup [K0n f6,.bool f7]),oN,oN,oN,nW 20,oN,oN] [] [(9,.ra 20 0),(10,.bool f7)] [(4,.box [I a9,.rs 5,.rs 6,.rs 7]),(5,rI b1),(6,rI b2),(7,rM AV.bool b3),(15,rI d2.fPlus),(16,rI d2.fTimes),(17,rM AV.bool d2.fBelow),(18,.box [I d2.fSize,.rs 15,.rs 16,.rs 17]),(19,K0m f0),(20,K0m f6)] (ac (Q7a.args (A1 := [K0t d2]) (A2 := [K0n d2]) (by simp only [K0t,List.map_nil,Qff,Qfd]) (K9s _ _ f5)) K2i (Or.inr rfl : ([15,16,17] : List Nat) = [] ∨ noSh (.str f4) = true) (cq (Kae _ _ f8) K2o tv)) (sN ?_)
 obtain ⟨f9,g0,h⟩ := Qel h
 refine Wp.into (x := .normal) (mkS [(2,.bool f9)] []) ?_ ?_
 ·replace h := g0
  rcases is h with ⟨g1,h⟩ | ⟨g1,h⟩
  ·rcases is h with ⟨g2,h⟩ | ⟨g2,h⟩
   ·obtain ⟨g3,g4,h⟩ := Qel h
    rcases is h with ⟨g5,h⟩ | ⟨g5,h⟩
    ·obtain ⟨g6,g7,h⟩ := Qel h
     obtain rfl := os h
     exact rj hc none [oN,oN,oN,oT,oN,oN,oN,oc (.bool g3),oT,oN,oN,oN,oc (.bool g6),oT,oN] (ar 2 g1 (ar 3 g2 (ad (Q7a.args (A1 := [K0n f0,.agg [I a9,.sl (Q05 (List.map I b1)),.sl (Q05 (List.map I b2)),.sl (Q05 (List.map AV.bool b3))]]) (A2 := [K0n f0,.agg [I a9,sI b1,sI b2,sB b3]]) (by simp only [List.map_nil,Qff,Qfd]) (Kas _ _ g4)) K2q (Or.inr rfl : ([5,6,7] : List Nat) = [] ∨ noSh (.bool g3) = true) g2 (ar 3 g5 (ad (Q7a.args (A1 := [K0n f6,K0t d2]) (A2 := [K0n f6,K0n d2]) (by simp only [K0t,List.map_nil,Qff,Qfd]) (Kas _ _ g7)) K2q (Or.inr rfl : ([15,16,17] : List Nat) = [] ∨ noSh (.bool g6) = true) g5 tv)))))
    obtain rfl := os h
    exact rj hc none [oN,oN,oN,oT,oN,oN,oN,oc (.bool g3),oT,oN,o_,o_,o_,oF,oN] (ar 2 g1 (ar 3 g2 (ad (Q7a.args (A1 := [K0n f0,.agg [I a9,.sl (Q05 (List.map I b1)),.sl (Q05 (List.map I b2)),.sl (Q05 (List.map AV.bool b3))]]) (A2 := [K0n f0,.agg [I a9,sI b1,sI b2,sB b3]]) (by simp only [List.map_nil,Qff,Qfd]) (Kas _ _ g4)) K2q (Or.inr rfl : ([5,6,7] : List Nat) = [] ∨ noSh (.bool g3) = true) g2 (ar 3 (neT g5) (ai g5 tv)))))
   obtain rfl := os h
   exact rj hc none [oN,oN,oN,oT,oN,o_,o_,o_,oF,oN,o_,o_,o_,oF,oN] (ar 2 g1 (ar 3 (neT g2) (ai g2 (ar 3 (neT fF) (ai fF tv)))))
  obtain rfl := os h
  exact rj hc none [oN,oN,o_,oF,oN,o_,o_,o_,oF,oN,o_,o_,o_,oF,oN] (ab (neT g1) g1 (ar 3 (neT fF) (ai fF (ar 3 (neT fF) (ai fF tv)))))
 clear g0
 obtain rfl := os h
 exact rt (rq [true])
end Go.Am
