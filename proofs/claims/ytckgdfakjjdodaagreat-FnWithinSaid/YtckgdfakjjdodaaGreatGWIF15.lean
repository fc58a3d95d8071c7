/- Walks, printed. -/
import Derived.Test.YtckgdfakjjdodaaGreatGWIF11
set_option linter.unusedVariables false
set_option linter.unusedSimpArgs false
set_option maxRecDepth 100000
namespace Go.Am
open Go Go.Proofs
def Kp3 : Option (List (List Nat)) := rx [[0],[1],[2],[3],[4],[5],[6],[7],[8],[9],[10],[11],[8],[8,12],[8,12,13],[8,12,13,14],[8,12,13,14,15],[8,12,13,14,15,16],[8,12,13,14,15,16,17],[8,12,13,14,15,16,17,18],[8,12,13,14,15,16,17,18,19],[8,12,13,14,15,16,17,18,19,20],[8,12,13,14,15,16,17,18,19,20,21],[8,12,13,14,15,16,17,18,19,20,21,22],[24],[25],[26]]
mutual
def Kp4 (p : K06 × LL × K01) : Option (K04) :=
 match p with
 | (p0,ctx1,t2) =>
  (chk (0 ≤ (ctx1.length : Int) ∧ (Int.toNat (ctx1.length : Int)) * 8 ≤ 140737488355328)) >>= fun _ =>
  (Kp5 (p0,ctx1,t2,[],[],[],0)) >>= fun fl => match fl with
  | .inl (a0,a1,a2) =>
   (Koz (p0,(K04.mk [] (List.replicate (Int.toNat (ctx1.length : Int)) 0) a0 0 []),ctx1,t2,a1,a2)) >>= fun (a3,a4) =>
   if (a3 != 0) = true then
   some (K04.mk [] [] [] a3 [])
   else
   some (K04.mk a4.fty a4.fneeds a4.fkids a3 a4.fpath)
  | .inr r =>
   some r
 partial_fixpoint
def Kp5 (p : K06 × LL × K01 × (List K04) × LL × LL × Int) : Option (((List K04) × LL × LL) ⊕ (K04)) :=
 match p with
 | (p0,ctx1,t2,a0,a1,a2,a3) =>
  if (decide (a3 < (t2.fKids.length : Int))) = true then
  (idx t2.fKids a3) >>= fun a4 =>
  ((
  if (decide (a3 > 0)) = true then
  some (true)
  else
  some ((t2.fOp == 9))
  ) : Option (Bool)) >>= fun a5 =>
  ((
  if a5 = true then
  ((
  if (decide (a3 > 0)) = true then
  (idx a0 0) >>= fun a6 =>
  some (a6.fty)
  else
  some ([])
  ) : Option ((List Int))) >>= fun a7 =>
  (Klw (t2,a3,a7)) >>= fun a8 =>
  some (a8)
  else
  some ([])
  ) : Option (LL)) >>= fun a9 =>
  (Kma [a9,ctx1]) >>= fun b1 =>
  (Kp4 (p0,b1,a4)) >>= fun b2 =>
  if (b2.ffault != 0) = true then
  (Qei ([a3].length + b2.fpath.length) 8) >>= fun _ =>
  some (.inr (K04.mk [] [] [] b2.ffault ([a3] ++ b2.fpath)))
  else
  (Kme (p0,t2,a3,b2.fty)) >>= fun b3 =>
  if (b3 != 0) = true then
  some (.inr (K04.mk [] [] [] b3 []))
  else
  ((
  if (t2.fOp == 10) = true then
  if (a3 == 1) = true then
  (idx a0 0) >>= fun b4 =>
  (Klt b4.fty) >>= fun b5 =>
  (idx b5 0) >>= fun b6 =>
  (Kml (b2.fty,b6)) >>= fun b7 =>
  some ((!b7))
  else
  some (false)
  else
  some (false)
  ) : Option (Bool)) >>= fun b8 =>
  if b8 = true then
  some (.inr (K04.mk [] [] [] 3 []))
  else
  (Qei (a0.length + [b2].length) 8) >>= fun _ =>
  (cut b2.fneeds none (some (a9.length : Int)) none) >>= fun b9 =>
  (Qei (a2.length + [b9].length) 24) >>= fun _ =>
  (cut b2.fneeds (some (a9.length : Int)) none none) >>= fun c0 =>
  (Qei (a1.length + [c0].length) 24) >>= fun _ =>
  Kp5 (p0,ctx1,t2,(a0 ++ [b2]),(a1 ++ [c0]),(a2 ++ [b9]),(wr (a3 + 1)))
  else
  some (.inl (a0,a1,a2))
 partial_fixpoint
end
def Kp6 (p : K06 × LL × K01) (r : K04) : Prop :=
 match p with
 | (p0,ctx1,t2) => Q77 Tryz.prog 173 [K2b p0,sL ctx1,K1z t2] (.ptr [sI r.fty,sI r.fneeds,sM K07 r.fkids,I r.ffault,sI r.fpath] 0) []
def Kp7 (p : K06 × LL × K01 × (List K04) × LL × LL × Int) (fl : ((List K04) × LL × LL) ⊕ (K04)) : Prop :=
 match p with
 | (p0,ctx1,t2,a0,a1,a2,a3) => ∀ c : Ctx,c.nt = 171 → WpL Tryz.prog c (cl (cl (cr (cl (cr (cr (cr (cr K80)))))))) (Kp2 c p0 ctx1 t2 fl) (mkS [(1,sL ctx1),(3,.ra 1 0),(5,.ra 2 0),(7,.ra 4 0),(8,.rs 21),(9,.rs 22),(22,sM K0h t2.fKids),(23,I (t2.fKids.length : Int)),(24,I a3)] [(1,K2a p0),(2,K1y t2),(3,.arr (List.map I (List.replicate (Int.toNat (ctx1.length : Int)) 0))),(4,.box [.nils,.rs 3,.rs 20,I 0,.nils]),(20,rM K07 a0),(21,rM K14 a1),(22,rM K14 a2)])
theorem Kp8 : (∀ p r,Kp4 p = some r → Kp6 p r) ∧ (∀ p r,Kp5 p = some r → Kp7 p r) := by
 refine Kp4.mutual_partial_correctness Kp6 Kp7 ?_ ?_
 ·rintro impl_typertyp_l0_f impl_typertyp_l0_ih ⟨p0,ctx1,t2⟩ r h
  refine b0 Tryz.f173 K80 171 [(0,K2b p0),(1,sL ctx1),(2,K1z t2)] fun c hc => (rsd hc none [nW 1,nW 2,oN] [0,2] [(3,.ra 1 0),(5,.ra 2 0)] [(1,K2a p0),(2,K1y t2)] tv ?_)
  obtain ⟨_,a0,h⟩ := Qe5 h
  refine rsd hc none [oN,nQ ⟨[(17,I (ctx1.length : Int))],[],[]⟩,some (.eqv (.mk 3 true) ⟨[(18,.rs 3)],[(3,some (.arr (List.map I (List.replicate (Int.toNat (ctx1.length : Int)) 0))))],[3]⟩),oN,nW 4,oN] [] [(7,.ra 4 0)] [(1,K2a p0),(2,K1y t2),(3,.arr (List.map I (List.replicate (Int.toNat (ctx1.length : Int)) 0))),(4,.box [.nils,.rs 3,.nils,I 0,.nils])] (ac (Qeb (d := 17) K14 ctx1) (congrArg (fun z => (⟨[(18,.rs 3)],[(3,some (.arr z))],[3]⟩ : Wr)) (Qfa (enc := I) (n := Int.toNat (ctx1.length : Int)) (x := I 0) (Qek 0))) (And.intro (Eq.refl (ctx1.length : Int)) (Qe7 a0)) tv) (K9h hc 1 [] [(8,.nils)] (K9h hc 1 [] [(9,.nils)] (sN (rss hc none [oN,oN,nQ ⟨[(23,I (t2.fKids.length : Int))],[],[]⟩,oN] [(1,sL ctx1),(3,.ra 1 0),(5,.ra 2 0),(7,.ra 4 0),(8,.nils),(9,.nils),(22,sM K0h t2.fKids),(23,I (t2.fKids.length : Int)),(24,I 0)] (ai (Qeb (d := 23) K0h t2.fKids) tv) (bk 0 ?_)))))
  obtain ⟨fl,a1,h⟩ := Qe5 h
  have hL := impl_typertyp_l0_ih _ _ a1 c hc
  refine Wp.loopN (by kernel_rfl) (WpL.view (fun a w hv => SRx.renL [(20,57),(21,58),(22,59)] (SRx.nilTL 9 59 (SRx.nilTL 8 58 (SRx.nilBL 4 2 57 [.nils,.rs 3,.nils,I 0,.nils] hv (by kernel_rfl) (by kernel_rfl) (by kernel_rfl)) (by kernel_rfl) (by kernel_rfl)) (by kernel_rfl) (by kernel_rfl)) (by kernel_rfl) (by kernel_rfl) (by kernel_rfl)) (?_ : WpL _ c _ _ (mkS [(1,sL ctx1),(3,.ra 1 0),(5,.ra 2 0),(7,.ra 4 0),(8,.rs 21),(9,.rs 22),(22,sM K0h t2.fKids),(23,I (t2.fKids.length : Int)),(24,I 0)] [(1,K2a p0),(2,K1y t2),(3,.arr (List.map I (List.replicate (Int.toNat (ctx1.length : Int)) 0))),(4,.box [.nils,.rs 3,.rs 20,I 0,.nils]),(20,.arr (List.map K07 [])),(21,.arr (List.map K14 [])),(22,.arr (List.map K14 []))])))
  rcases fl with ⟨a2,a3,a4⟩ | r
  ·refine wl hL (Qdj (sN (vz 21 (K18 a3) [(1,sL ctx1),(3,.ra 1 0),(5,.ra 2 0),(7,.ra 4 0),(8,sL a3),(9,.rs 22)] [(1,K2a p0),(2,K1y t2),(3,.arr (List.map I (List.replicate (Int.toNat (ctx1.length : Int)) 0))),(4,.box [.nils,.rs 3,.rs 20,I 0,.nils]),(20,rM K07 a2),(22,rM K14 a4)] (vz 22 (K18 a4) [(1,sL ctx1),(3,.ra 1 0),(5,.ra 2 0),(7,.ra 4 0),(8,sL a3),(9,sL a4)] [(1,K2a p0),(2,K1y t2),(3,.arr (List.map I (List.replicate (Int.toNat (ctx1.length : Int)) 0))),(4,.box [.nils,.rs 3,.rs 20,I 0,.nils]),(20,rM K07 a2)] ?_))))
   obtain ⟨⟨a5,a6⟩,a7,h⟩ := Qe5 h
   refine rg hc none (nN 7 [some (.call (I a5) [.undef,K29 a6,.undef,.undef,.undef,.undef] 1),oN,oN,oN]) [(7,.ra 4 0)] [(4,.box [sI a6.fty,sI a6.fneeds,sM K07 a6.fkids,I a5,sI a6.fpath])] (ab (Kp1 _ _ a7) K8w tv) (sN (K9h hc 5 [] [(163,.bool (a5 != 0))] (ic h (fun a8 h => ?_) fun a8 h => ?_)))
   ·refine rs hc none (nN 5 [nW 60,oN]) [(6,.ra 60 0)] [(60,.box [.nils,.nils,.nils,I a5,.nils])] tv (vb 60 [.nils,.nils,.nils,I a5,.nils] [(6,.ptr [.sl (List.map I []),.sl (List.map I []),.sl (List.map K07 []),I a5,.sl (List.map I [])] 0)] [] ?_)
    obtain rfl := os h
    exact rt (rq [false])
   refine sk (K9e hc 2 [(6,.ra 4 0)] (vb 4 [sI a6.fty,sI a6.fneeds,sM K07 a6.fkids,I a5,sI a6.fpath] [(6,.ptr [sI a6.fty,sI a6.fneeds,sM K07 a6.fkids,I a5,sI a6.fpath] 0)] [] ?_))
   obtain rfl := os h
   exact rt (rq [false])
  refine WpL.mono hL ?_
  rintro _ _ ⟨rfl,hfin⟩
  obtain rfl := os h
  exact ⟨.inl rfl,hfin⟩
 ·rintro impl_typertyp_f impl_typertyp_l0_f impl_typertyp_ih impl_typertyp_l0_ih ⟨p0,ctx1,t2,a9,b1,b2,b3⟩ r h
  intro c hc
  refine WpL.step (K9h hc 1 [] [(25,.bool (decide (b3 < (t2.fKids.length : Int))))] (sN (ic h (fun b4 h => ?_) fun b4 h => ?_)))
  ·refine sk (sN (bk 1 ?_))
   obtain ⟨b5,b6,h⟩ := Qe5 h
   refine rsd hc none [oN,eL (K1z b5),oN,nW 40,oN,oN] [25] [(10,I b3),(11,.ra 40 0)] [(1,K2a p0),(2,K1y t2),(3,.arr (List.map I (List.replicate (Int.toNat (ctx1.length : Int)) 0))),(4,.box [.nils,.rs 3,.rs 20,I 0,.nils]),(20,rM K07 a9),(21,rM K14 b1),(22,rM K14 b2),(40,K1y b5)] (ai (Qe9 b6 (K0o b5)) tv) (K9h hc 1 [] [(12,.nils)] (sN (sN ?_)))
   obtain ⟨b7,b8,h⟩ := Qe5 h
   refine wi [] [(35,.bool b7)] ?_ ?_
   ·replace h := b8
    rcases is h with ⟨b9,h⟩ | ⟨b9,h⟩
    ·obtain rfl := os h
     exact rj hc none [oN,oN,oN,o_,o_,o_,oT] (ar 3 (neF b9) (ai b9 tv))
    obtain rfl := os h
    exact rj hc none (nN 6 [oF]) (ar 4 b9 tv)
   clear b8
   obtain ⟨c0,c1,h⟩ := Qe5 h
   refine Wp.into (x := .normal) (mkS [(1,sL ctx1),(3,.ra 1 0),(5,.ra 2 0),(7,.ra 4 0),(8,.rs 21),(9,.rs 22),(10,I b3),(11,.ra 40 0),(12,.rs 41),(22,sM K0h t2.fKids),(23,I (t2.fKids.length : Int)),(24,I b3)] [(1,K2a p0),(2,K1y t2),(3,.arr (List.map I (List.replicate (Int.toNat (ctx1.length : Int)) 0))),(4,.box [.nils,.rs 3,.rs 20,I 0,.nils]),(20,rM K07 a9),(21,rM K14 b1),(22,rM K14 b2),(40,K1y b5),(41,rM K14 c0)]) ?_ ?_
   ·replace h := c1
    refine ic h (fun c2 h => ?_) fun c2 h => ?_
    ·refine K9h hc 1 [35,12] [(13,.nils)] (sN (K9e hc 2 [(1,sL ctx1),(3,.ra 1 0),(5,.ra 2 0),(7,.ra 4 0),(8,.rs 21),(9,.rs 22),(10,I b3),(11,.ra 40 0),(13,.nils),(22,sM K0h t2.fKids),(23,I (t2.fKids.length : Int)),(24,I b3),(37,.bool (decide (b3 > 0)))] ?_))
     obtain ⟨c3,c4,h⟩ := Qe5 h
     refine wi [13,37] [(13,sI c3)] ?_ ?_
     ·replace h := c4
      refine ic h (fun c5 h => ?_) fun c5 h => ?_
      ·obtain ⟨c6,c7,h⟩ := Qe5 h
       obtain rfl := os h
       exact rj hc none (nN 5 ([eL (.ptr [sI c6.fty,sI c6.fneeds,sM K07 c6.fkids,I c6.ffault,sI c6.fpath] 0)]++nN 4 [])) (ab (Qea (enc := K07) c7) (Qe9 (enc := K07) (x := .ptr [sI c6.fty,sI c6.fneeds,sM K07 c6.fkids,I c6.ffault,sI c6.fpath] 0) c7 (K0a c6)).2 tv)
      obtain rfl := os h
      exact sk (Qdr.view (fun a w hv => SRx.renL [] (SRx.nilSL 13 hv (by kernel_rfl)) (by kernel_rfl) (by kernel_rfl) (by kernel_rfl)))
     clear c4
     obtain ⟨c8,c9,h⟩ := Qe5 h
     obtain rfl := os h
     exact rj hc none [oN,oN,oN,some (.call (.osl (List.map K14 c8)) [] 41),oN] (cq (Kly _ _ c9) K7v tv)
    obtain rfl := os h
    exact sk (Qdr.view (fun a w hv => SRx.renL [(41,42)] (SRx.nilTL 12 42 hv (by kernel_rfl) (by kernel_rfl)) (by kernel_rfl) (by kernel_rfl) (by kernel_rfl)))
   clear c1
   refine sN (vz 41 (K18 c0) [(1,sL ctx1),(3,.ra 1 0),(5,.ra 2 0),(7,.ra 4 0),(8,.rs 21),(9,.rs 22),(10,I b3),(11,.ra 40 0),(12,sL c0),(22,sM K0h t2.fKids),(23,I (t2.fKids.length : Int)),(24,I b3)] [(1,K2a p0),(2,K1y t2),(3,.arr (List.map I (List.replicate (Int.toNat (ctx1.length : Int)) 0))),(4,.box [.nils,.rs 3,.rs 20,I 0,.nils]),(20,rM K07 a9),(21,rM K14 b1),(22,rM K14 b2),(40,K1y b5)] ?_)
   obtain ⟨d0,d1,d2,d3,h⟩ := bq2 h
   refine rgd hc (rx [[0],[0],[0],[0,1,2],[0,1,2,3],[0],[6],[7]]) [oN,oN,oN,some (.mk 44 false),some (.call (sL d0) [.tup []] 1),oN,oc (.ptr [sI d2.fty,sI d2.fneeds,sM K07 d2.fkids,I d2.ffault,sI d2.fpath] 0),oN] [11] [(14,.ptr [sI d2.fty,sI d2.fneeds,sM K07 d2.fkids,I d2.ffault,sI d2.fpath] 0)] [(1,K2a p0),(2,K1y t2),(3,.arr (List.map I (List.replicate (Int.toNat (ctx1.length : Int)) 0))),(4,.box [.nils,.rs 3,.rs 20,I 0,.nils]),(20,rM K07 a9),(21,rM K14 b1),(22,rM K14 b2)] (ab (Q77.args (A1 := [.sl (Q02 (List.map K1q [c0,ctx1]))]) (A2 := [.sl (List.map K1q [c0,ctx1])]) (by simp only [List.map_nil,K1u]) (Kmc _ _ d1)) K7z (cq (impl_typertyp_ih _ _ d3) K81 tv)) (sN (K9h hc 5 [] [(62,.bool (d2.ffault != 0))] (ic h (fun d4 h => ?_) fun d4 h => ?_)))
   ·obtain ⟨_,d5,h⟩ := Qe5 h
    refine rs hc (rx [[0],[1],[2],[3],[0],[0,4],[0],[0,6],[0,6,7],[0,6,7,8],[0,4,5,6,7,8,9],[11],[12],[13]]) (nN 5 ([mK 45]++nN 4 [some (.eqv (.mk 46 true) ⟨[(73,.rs 46)],[(46,some (rI ([b3] ++ d2.fpath))),(45,none)],[46]⟩),oN,nW 47,oN])) [(6,.ra 47 0)] [(46,rI ([b3] ++ d2.fpath)),(47,.box [.nils,.nils,.nils,I d2.ffault,.rs 46])] (ab (congrArg (fun z => (⟨[(73,.rs 46)],[(46,some (.arr z)),(45,none)],[46]⟩ : Wr)) ((List.map_append).symm : (List.map I [b3]) ++ (List.map I d2.fpath) = List.map I ([b3] ++ d2.fpath))) (Qej (enc1 := I) (enc2 := I) (e1 := [b3]) (e2 := d2.fpath) (sz := 1) Qes Qes d5) tv) (vz 46 (Qex ([b3] ++ d2.fpath)) [(6,.ra 47 0)] [(47,.box [.nils,.nils,.nils,I d2.ffault,sI ([b3] ++ d2.fpath)])] (vb 47 [.nils,.nils,.nils,I d2.ffault,sI ([b3] ++ d2.fpath)] [(6,.ptr [.sl (List.map I []),.sl (List.map I []),.sl (List.map K07 []),I d2.ffault,sI ([b3] ++ d2.fpath)] 0)] [] ?_))
    obtain rfl := os h
    exact rt (re [false])
   refine sk (sN ?_)
   obtain ⟨d6,d7,h⟩ := Qe5 h
   refine K9g hc (rx [[0],[0],[0],[0],[0,3],[0,3,4],[0,3,4,5],[7],[8]]) (nN 7 [oc (I d6),oN]) [62] [(15,I d6)] (cq (Kmg _ _ d7) K83 tv) (K9h hc 2 [] [(85,.bool (d6 != 0))] (ic h (fun d8 h => ?_) fun d8 h => ?_))
   ·refine rs hc none [oN,oN,nW 48,oN] [(6,.ra 48 0)] [(48,.box [.nils,.nils,.nils,I d6,.nils])] tv (vb 48 [.nils,.nils,.nils,I d6,.nils] [(6,.ptr [.sl (List.map I []),.sl (List.map I []),.sl (List.map K07 []),I d6,.sl (List.map I [])] 0)] [] ?_)
    obtain rfl := os h
    exact rt (re [false])
   refine sk (sN (sN ?_))
   obtain ⟨d9,e0,h⟩ := Qe5 h
   refine wi [85,15,10] [(115,.bool d9)] ?_ ?_
   ·replace h := e0
    rcases is h with ⟨e3,h⟩ | ⟨e3,h⟩
    ·rcases is h with ⟨e4,h⟩ | ⟨e4,h⟩
     ·obtain ⟨e5,e6,e7,e8,e9,f0,f1,f2,h⟩ := bq4 h
      obtain rfl := os h
      exact rj hc Kp3 (nN 6 ([oT]++nN 10 [eL (.ptr [sI e5.fty,sI e5.fneeds,sM K07 e5.fkids,I e5.ffault,sI e5.fpath] 0),oN,oN,oN,some (.call (.osl (List.map K14 e7)) [] 49),oN,eL (sI e9),oc (.bool f1),oN,oT])) (ar 3 e3 (ar 9 e4 (ac (Qea (enc := K07) e6) e4 (Qe9 (enc := K07) (x := .ptr [sI e5.fty,sI e5.fneeds,sM K07 e5.fkids,I e5.ffault,sI e5.fpath] 0) e6 (K0a e5)).2 (ar 4 e4 (cq (Klv _ _ e8) K7t (ad e4 (Qea (enc := K14) f0) e4 (xL f0).2 (ai e4 (cq (Kmn _ _ f2) K85 (ar 2 e4 tv)))))))))
     obtain rfl := os h
     exact rj hc Kp3 (nN 6 ([oT,oN]++n_ 18 [oF])) (ar 3 e3 (ar 18 (neT e4) (ai e4 tv)))
    obtain rfl := os h
    exact rj hc Kp3 (nN 4 ([o_,o_,oF,oN]++n_ 18 [oF])) (ar 2 (neT e3) (ai e3 (ar 18 (neT fF) (ai fF tv))))
   clear e0
   refine ic h (fun f3 h => ?_) fun f3 h => ?_
   ·refine rs hc none [oN,nW 50,oN] [(6,.ra 50 0)] [(50,.box [.nils,.nils,.nils,I 3,.nils])] tv (vb 50 [.nils,.nils,.nils,I 3,.nils] [(6,.ptr [.sl (List.map I []),.sl (List.map I []),.sl (List.map K07 []),I 3,.sl (List.map I [])] 0)] [] ?_)
    obtain rfl := os h
    exact rt (re [false])
   refine sk ?_
   obtain ⟨_,f4,h⟩ := Qe5 h
   refine rs hc none (nN 6 [some (.eqv (.mk 51 false) ⟨[(124,.rs 51)],[(51,some (.arr (List.map K07 [d2])))],[51]⟩),some (.eqv (.mk 52 true) ⟨[(125,.rs 52)],[(52,some (rM K07 (a9 ++ [d2]))),(20,none),(51,none)],[52]⟩),oN,oN,oN]) [(1,sL ctx1),(3,.ra 1 0),(5,.ra 2 0),(7,.ra 4 0),(8,.rs 21),(9,.rs 22),(12,sL c0),(14,.ptr [sI d2.fty,sI d2.fneeds,sM K07 d2.fkids,I d2.ffault,sI d2.fpath] 0),(22,sM K0h t2.fKids),(23,I (t2.fKids.length : Int)),(24,I b3)] [(1,K2a p0),(2,K1y t2),(3,.arr (List.map I (List.replicate (Int.toNat (ctx1.length : Int)) 0))),(4,.box [.nils,.rs 3,.rs 52,I 0,.nils]),(21,rM K14 b1),(22,rM K14 b2),(52,rM K07 (a9 ++ [d2]))] (ac (congrArg (fun z => (⟨[(124,.rs 51)],[(51,some (.arr z))],[51]⟩ : Wr)) ((Qfc (K0a d2) Qfb) : [AV.ptr [sI d2.fty,sI d2.fneeds,sM K07 d2.fkids,I d2.ffault,sI d2.fpath] 0] = List.map K07 [d2])) (congrArg (fun z => (⟨[(125,.rs 52)],[(52,some (.arr z)),(20,none),(51,none)],[52]⟩ : Wr)) ((List.map_append).symm : (List.map K07 a9) ++ (List.map K07 [d2]) = List.map K07 (a9 ++ [d2]))) (Qej (enc1 := K07) (enc2 := K07) (e1 := a9) (e2 := [d2]) (sz := 1) K0d K0d f4) tv) ?_
   obtain ⟨f5,f6,_,f7,f8,f9,_,g0,h⟩ := bq4 h
   exact rgd hc (rx [[0],[0],[0,1],[0,1,2],[0,1,2,3],[0],[0,5],[0,1,2,3,4,5,6],[0,1,2,3,4,5,6,7],[9],[0],[0],[0,11],[0,11,12],[0,11,12,13],[0],[0,15],[0,11,12,13,14,15,16],[0,11,12,13,14,15,16,17],[19],[20],[21]]) (nN 6 ([nQ ⟨[(134,I (c0.length : Int))],[],[]⟩,nQ ⟨[(135,sI f5)],[],[]⟩,some (.mk 53 false),some (.eqv (.mk 54 true) ⟨[(137,.rs 54)],[(54,some (rM K14 (b2 ++ [f5]))),(22,none),(53,none)],[54]⟩)]++nN 6 [nQ ⟨[(144,I (c0.length : Int))],[],[]⟩,nQ ⟨[(145,sI f8)],[],[]⟩,some (.mk 55 false),some (.eqv (.mk 56 true) ⟨[(147,.rs 56)],[(56,some (rM K14 (b1 ++ [f8]))),(21,none),(55,none)],[56]⟩),oN,oN])) [8,9,12,14] [(8,.rs 56),(9,.rs 54)] [(1,K2a p0),(2,K1y t2),(3,.arr (List.map I (List.replicate (Int.toNat (ctx1.length : Int)) 0))),(4,.box [.nils,.rs 3,.rs 52,I 0,.nils]),(52,rM K07 (a9 ++ [d2])),(54,rM K14 (b2 ++ [f5])),(56,rM K14 (b1 ++ [f8]))] (ad (Qeb (d := 134) K14 c0) (Qee (d := 135) I f6) (Qed (enc := I) (sz := 1) Qeo f6) (congrArg (fun z => (⟨[(137,.rs 54)],[(54,some (.arr z)),(22,none),(53,none)],[54]⟩ : Wr)) ((List.map_append).symm : (List.map K14 b2) ++ (List.map K14 [f5]) = List.map K14 (b2 ++ [f5]))) (ad (Qej (enc1 := K14) (enc2 := K14) (e1 := b2) (e2 := [f5]) (sz := 1) K17 K17 f7) (Qeb (d := 144) K14 c0) (Qee (d := 145) I f9) (Qed (enc := I) (sz := 1) Qeo f9) (ab (congrArg (fun z => (⟨[(147,.rs 56)],[(56,some (.arr z)),(21,none),(55,none)],[56]⟩ : Wr)) ((List.map_append).symm : (List.map K14 b1) ++ (List.map K14 [f8]) = List.map K14 (b1 ++ [f8]))) (Qej (enc1 := K14) (enc2 := K14) (e1 := b1) (e2 := [f8]) (sz := 1) K17 K17 g0) tv))) (K9a hc 2 [(1,sL ctx1),(3,.ra 1 0),(5,.ra 2 0),(7,.ra 4 0),(8,.rs 56),(9,.rs 54),(22,sM K0h t2.fKids),(23,I (t2.fKids.length : Int)),(24,I (wr (b3 + 1)))] (Qdn (WpL.view (fun a w hv => SRx.renL [(20,52),(21,56),(22,54)] hv (by kernel_rfl) (by kernel_rfl) (by kernel_rfl)) (impl_typertyp_l0_ih _ _ h c hc))))
  obtain rfl := os h
  exact xt 0 (Qdh (Qdo (iv [])))
theorem Kp9 : ∀ p r,Kp4 p = some r → Kp6 p r := Kp8.1
theorem Kpa : ∀ p r,Kp5 p = some r → Kp7 p r := Kp8.2
def Kpb (p : K00 × LL × K01) : Option (Option K04) :=
 match p with
 | (s0,ctx1,t2) =>
  ((
  (Kk6 s0) >>= fun a0 =>
  if a0 = true then
  (Kl2 (s0,ctx1)) >>= fun a1 =>
  if a1 = true then
  (Klm (s0,t2,(ctx1.length : Int))) >>= fun a2 =>
  some ((!a2))
  else
  some (true)
  else
  some (true)
  ) : Option (Bool)) >>= fun a3 =>
  if a3 = true then
  some none
  else
  (Kp4 ((K06.mk s0),ctx1,t2)) >>= fun a4 =>
  some (some a4)
def Kpc (p : K00 × LL × K01) (r : Option K04) : Prop :=
 match p with
 | (s0,ctx1,t2) => Q77 Tryz.prog 87 [K1w s0,sL ctx1,K1z t2] (K0b r) []
theorem Kpd : ∀ p r,Kpb p = some r → Kpc p r := by
 rintro ⟨s0,ctx1,t2⟩ r h
 unfold Kpb at h
 refine b0 Tryz.f87 B87 29 [(0,K1w s0),(1,sL ctx1),(2,K1z t2)] fun c hc => (rsd hc none [nW 1,nW 2,oN] [0,2] [(3,.ra 1 0),(5,.ra 2 0)] [(1,K1v s0),(2,K1y t2)] tv (sN (sN ?_)))
 obtain ⟨a0,a1,h⟩ := Qe5 h
 refine wi [] [(23,.bool a0)] ?_ ?_
 ·replace h := a1
  obtain ⟨a2,a3,h⟩ := Qe5 h
  rcases is h with ⟨a4,h⟩ | ⟨a4,h⟩
  ·obtain ⟨a5,a6,h⟩ := Qe5 h
   rcases is h with ⟨a7,h⟩ | ⟨a7,h⟩
   ·obtain ⟨a8,a9,h⟩ := Qe5 h
    obtain rfl := os h
    exact rj hc none ([oN,oc (.bool a2)]++nN 4 ([oc (.bool a5),oN,oF]++nN 4 [nQ ⟨[(20,I (ctx1.length : Int))],[],[]⟩,oc (.bool a8),oN,oF])) (cq (Kk8 _ _ a3) K72 (ar 3 (nF a4) (cq (Kl4 _ _ a6) K7h (ar 2 (nF a4) (ar 4 (nF a7) (ab (Qeb (d := 20) K14 ctx1) (nF a7) (cq (Klo _ _ a9) K7r (ar 2 (nF a7) tv))))))))
   obtain rfl := os h
   exact rj hc none ([oN,oc (.bool a2)]++nN 4 ([oc (.bool a5),oN,oF,oN]++n_ 6 [oT])) (cq (Kk8 _ _ a3) K72 (ar 3 (nF a4) (cq (Kl4 _ _ a6) K7h (ar 2 (nF a4) (ar 6 (neF (nT a7)) (ai (nT a7) tv))))))
  obtain rfl := os h
  exact rj hc none ([oN,oc (.bool a2),oN,oN]++n_ 4 ([oT,oN]++n_ 6 [oT])) (cq (Kk8 _ _ a3) K72 (ar 4 (neF (nT a4)) (ai (nT a4) (ar 6 nf (ai tt tv)))))
 clear a1
 refine ic h (fun b1 h => ?_) fun b1 h => ?_
 ·obtain rfl := os h
  exact rs0 hc 1 [(6,.nilp)] [] (rt (rq [false]))
 refine sk ?_
 obtain ⟨b2,b3,h⟩ := Qe5 h
 obtain rfl := os h
 exact rs hc none (nN 4 [oc (.ptr [sI b2.fty,sI b2.fneeds,sM K07 b2.fkids,I b2.ffault,sI b2.fpath] 0),oN]) [(6,.ptr [sI b2.fty,sI b2.fneeds,sM K07 b2.fkids,I b2.ffault,sI b2.fpath] 0)] [] (cq (Kp9 _ _ b3) K81 tv) (rt (rq [false]))
def Kpe (p : K00 × LL × K01) : Option ((List Int) × (List Int) × Bool) :=
 match p with
 | (s0,ctx1,t2) =>
  (Kpb (s0,ctx1,t2)) >>= fun a0 =>
  match a0 with
  | none =>
   some ([],[],false)
  | some a1 =>
   if (a1.ffault != 0) = true then
   some ([],[],false)
   else
   (Kmo a1.fty) >>= fun a2 =>
   (Kmo a1.fneeds) >>= fun a3 =>
   some (a2,a3,true)
def Kpf (p : K00 × LL × K01) (r : (List Int) × (List Int) × Bool) : Prop :=
 match p with
 | (s0,ctx1,t2) => Q77 Tryz.prog 23 [K1w s0,sL ctx1,K1z t2] (.tup [oI r.1,.osl (List.map I r.2.1),.bool r.2.2]) []
theorem Kpg : ∀ p r,Kpe p = some r → Kpf p r := by
 rintro ⟨s0,ctx1,t2⟩ r h
 unfold Kpe at h
 refine b0 Tryz.f23 B23 33 [(0,K1w s0),(1,sL ctx1),(2,K1z t2)] fun c hc => (rsd hc none [nW 1,nW 2,oN,oN,oN] [0,2] [(3,.ra 1 0),(5,.ra 2 0)] [(1,K1v s0),(2,K1y t2)] tv (sN ?_))
 obtain ⟨a0,a1,h⟩ := Qe5 h
 rcases a0 with _ | a2
 ·refine rg hc none [oN,oN,oN,oc (.nilp),oN] [(9,.nilp)] [] (cq (Kpd _ _ a1) K8x tv) (sN (rsd hc none ([oN,oN,oN]++n_ 5 [oT]) [] [(22,.bool true)] [] (ar 5 nf (ai tt tv)) (cT true tt ?_)))
  obtain rfl := os h
  exact rs0 hc 3 [(6,.nils),(7,.nils),(8,.bool false)] [] (rt (rq [true,true,true]))
 refine rg hc none [oN,oN,oN,oc (.ptr [sI a2.fty,sI a2.fneeds,sM K07 a2.fkids,I a2.ffault,sI a2.fpath] 0),oN] [(9,.ptr [sI a2.fty,sI a2.fneeds,sM K07 a2.fkids,I a2.ffault,sI a2.fpath] 0)] [] (cq (Kpd _ _ a1) K8x tv) (sN (rsd hc none (nN 8 [oF]) [] [(22,.bool (a2.ffault != 0))] [] (ar 6 fF tv) (ic h (fun a3 h => ?_) fun a3 h => ?_)))
 ·obtain rfl := os h
  exact rs0 hc 3 [(6,.nils),(7,.nils),(8,.bool false)] [] (rt (rq [true,true,true]))
 refine sk ?_
 obtain ⟨a4,a5,a6,a7,h⟩ := bq2 h
 obtain rfl := os h
 exact rs hc (rx [[0],[1],[2],[3],[4],[0],[0,5],[0,5,6],[0,5,6,7],[9],[10],[11],[12]]) (nN 4 ([some (.call (oI a4) [] 3)]++nN 4 [some (.call (oI a6) [] 4),oN,oN,oN])) [(6,.rs 3),(7,.rs 4),(8,.bool true)] [(3,rI a4),(4,rI a6)] (cq (Kmq _ _ a5) K86 (cq (Kmq _ _ a7) K86 tv)) (rt (rq [true,true,true]))
def Kph (c : Ctx) : LL → Exit → Q0a → Prop
 | a0 => Qdr c (.exit 0) (mkS [(3,.rs 2)] [(2,rM K10 a0)])
mutual
def Kpi (x0 : K04) : Option (LL) :=
 (Kmo x0.fty) >>= fun a0 =>
 (Kpj (x0,[a0],0)) >>= fun a1 =>
 some a1
 partial_fixpoint
def Kpj (p : K04 × LL × Int) : Option (LL) :=
 match p with
 | (x0,a0,a1) =>
  if (decide (a1 < (x0.fkids.length : Int))) = true then
  (idx x0.fkids a1) >>= fun a2 =>
  (Kpi a2) >>= fun a3 =>
  (Qei (a0.length + a3.length) 24) >>= fun _ =>
  Kpj (x0,(a0 ++ a3),(wr (a1 + 1)))
  else
  some (a0)
 partial_fixpoint
end
def Kpk (x0 : K04) (r : LL) : Prop :=
 Q77 Tryz.prog 139 [.ptr [sI x0.fty,sI x0.fneeds,sM K07 x0.fkids,I x0.ffault,sI x0.fpath] 0] (oM K10 r) []
def Kpl (p : K04 × LL × Int) (fl : LL) : Prop :=
 match p with
 | (x0,a0,a1) => ∀ c : Ctx,c.nt = 27 → WpL Tryz.prog c (cl (cl (cr (cl (cr (cr K8z)))))) (Kph c fl) (mkS [(3,.rs 2),(15,sM K07 x0.fkids),(16,I (x0.fkids.length : Int)),(17,I a1)] [(2,rM K10 a0)])
theorem Kpm : (∀ p r,Kpi p = some r → Kpk p r) ∧ (∀ p r,Kpj p = some r → Kpl p r) := by
 refine Kpi.mutual_partial_correctness Kpk Kpl ?_ ?_
 ·rintro impl_typedallTypes_l0_f impl_typedallTypes_l0_ih x0 r h
  refine b0 Tryz.f139 K8z 27 [(0,.ptr [sI x0.fty,sI x0.fneeds,sM K07 x0.fkids,I x0.ffault,sI x0.fpath] 0)] fun c hc => (K9f hc 1 [] [] [] ?_)
  obtain ⟨a0,a1,h⟩ := Qe5 h
  refine rsd hc none (nN 4 [oc (oI a0),mK 2,oN]) [] [(3,.rs 2)] [(2,.arr (List.map K10 [a0]))] (cq (Kmq _ _ a1) K86 tv) (sN (rss hc none (nN 4 [nQ ⟨[(16,I (x0.fkids.length : Int))],[],[]⟩,oN]) [(3,.rs 2),(15,sM K07 x0.fkids),(16,I (x0.fkids.length : Int)),(17,I 0)] (ai (Qeb (d := 16) K07 x0.fkids) tv) (bk 0 ?_)))
  obtain ⟨a2,a3,h⟩ := Qe5 h
  have hL := impl_typedallTypes_l0_ih _ _ a3 c hc
  refine lp (wl hL ?_)
  obtain rfl := os h
  exact Qdj (K9e hc 2 [(2,.rs 2)] (rt (rq [true])))
 ·rintro impl_typedallTypes_f impl_typedallTypes_l0_f impl_typedallTypes_ih impl_typedallTypes_l0_ih ⟨x0,a4,a5⟩ r h
  intro c hc
  refine WpL.step (K9h hc 1 [] [(18,.bool (decide (a5 < (x0.fkids.length : Int))))] (sN (ic h (fun a6 h => ?_) fun a6 h => ?_)))
  ·refine sk (sN (bk 1 ?_))
   obtain ⟨a7,a8,h⟩ := Qe5 h
   refine K9g hc none [eL (.ptr [sI a7.fty,sI a7.fneeds,sM K07 a7.fkids,I a7.ffault,sI a7.fpath] 0),oN,oN] [18] [(5,.ptr [sI a7.fty,sI a7.fneeds,sM K07 a7.fkids,I a7.ffault,sI a7.fpath] 0)] (ai (Qe9 (enc := K07) (x := .ptr [sI a7.fty,sI a7.fneeds,sM K07 a7.fkids,I a7.ffault,sI a7.fpath] 0) a8 (K0a a7)) tv) ?_
   obtain ⟨a9,b1,_,b2,h⟩ := bq2 h
   exact rgd hc none [oN,oN,some (.call (oM K10 a9) [] 5),some (.eqv (.mk 6 true) ⟨[(24,.rs 6)],[(6,some (rM K10 (a4 ++ a9))),(2,none),(5,none)],[6]⟩),oN] [5,3] [(3,.rs 6)] [(6,rM K10 (a4 ++ a9))] (cq (impl_typedallTypes_ih _ _ b1) K90 (ab (congrArg (fun z => (⟨[(24,.rs 6)],[(6,some (.arr z)),(2,none),(5,none)],[6]⟩ : Wr)) ((List.map_append).symm : (List.map K10 a4) ++ (List.map K10 a9) = List.map K10 (a4 ++ a9))) (Qej (enc1 := K10) (enc2 := K10) (e1 := a4) (e2 := a9) (sz := 1) K13 K13 b2) tv)) (K9a hc 2 [(3,.rs 6),(15,sM K07 x0.fkids),(16,I (x0.fkids.length : Int)),(17,I (wr (a5 + 1)))] (Qdn (WpL.view (fun a w hv => SRx.renL [(2,6)] hv (by kernel_rfl) (by kernel_rfl) (by kernel_rfl)) (impl_typedallTypes_l0_ih _ _ h c hc))))
  obtain rfl := os h
  exact xt 0 (Qdh (Qdo (iv [])))
theorem Kpn : ∀ p r,Kpi p = some r → Kpk p r := Kpm.1
theorem Kpo : ∀ p r,Kpj p = some r → Kpl p r := Kpm.2
def Kpp (p : K00 × LL × K01) : Option (LL) :=
 match p with
 | (s0,ctx1,t2) =>
  (Kpb (s0,ctx1,t2)) >>= fun a0 =>
  match a0 with
  | none =>
   some []
  | some a1 =>
   if (a1.ffault != 0) = true then
   some []
   else
   (Kpi a1) >>= fun a2 =>
   some a2
def Kpq (p : K00 × LL × K01) (r : LL) : Prop :=
 match p with
 | (s0,ctx1,t2) => Q77 Tryz.prog 61 [K1w s0,sL ctx1,K1z t2] (oM K10 r) []
theorem Kpr : ∀ p r,Kpp p = some r → Kpq p r := by
 rintro ⟨s0,ctx1,t2⟩ r h
 unfold Kpp at h
 refine b0 Tryz.f61 B61 23 [(0,K1w s0),(1,sL ctx1),(2,K1z t2)] fun c hc => (rsd hc none [nW 1,nW 2,oN] [0,2] [(3,.ra 1 0),(5,.ra 2 0)] [(1,K1v s0),(2,K1y t2)] tv (sN ?_))
 obtain ⟨a0,a1,h⟩ := Qe5 h
 rcases a0 with _ | a2
 ·refine rg hc none [oN,oN,oN,oc (.nilp),oN] [(7,.nilp)] [] (cq (Kpd _ _ a1) K8x tv) (sN (rsd hc none ([oN,oN,oN]++n_ 5 [oT]) [] [(20,.bool true)] [] (ar 5 nf (ai tt tv)) (cT true tt ?_)))
  obtain rfl := os h
  exact rs0 hc 1 [(6,.nils)] [] (rt (rq [true]))
 refine rg hc none [oN,oN,oN,oc (.ptr [sI a2.fty,sI a2.fneeds,sM K07 a2.fkids,I a2.ffault,sI a2.fpath] 0),oN] [(7,.ptr [sI a2.fty,sI a2.fneeds,sM K07 a2.fkids,I a2.ffault,sI a2.fpath] 0)] [] (cq (Kpd _ _ a1) K8x tv) (sN (rsd hc none (nN 8 [oF]) [] [(20,.bool (a2.ffault != 0))] [] (ar 6 fF tv) (ic h (fun a3 h => ?_) fun a3 h => ?_)))
 ·obtain rfl := os h
  exact rs0 hc 1 [(6,.nils)] [] (rt (rq [true]))
 refine sk ?_
 obtain ⟨a4,a5,h⟩ := Qe5 h
 obtain rfl := os h
 exact rs hc none [oN,some (.call (oM K10 a4) [] 3),oN] [(6,.rs 3)] [(3,rM K10 a4)] (cq (Kpn _ _ a5) K90 tv) (rt (rq [true]))
def Kps (g0 : Int) : Option (Bool) :=
 (Kir (g0,(-1),15)) >>= fun a0 =>
 some a0
def Kpt (g0 : Int) (r : Bool) : Prop :=
 Q77 Tryz.prog 189 [I g0] (.bool r) []
theorem Kpu : ∀ p r,Kps p = some r → Kpt p r := by
 rintro g0 r h
 unfold Kps at h
 refine b0 Tryz.f189 K92 5 [(0,I g0)] fun c hc => (K9f hc 1 [] [] [] ?_)
 obtain ⟨a0,a1,h⟩ := Qe5 h
 obtain rfl := os h
 exact rs hc none [oN,oc (.bool a0),oN] [(2,.bool a0)] [] (cq (Kit _ _ a1) K6q tv) (rt (rq [true]))
def Kpv (c : Ctx) : (Int) ⊕ (Int) → Exit → Q0a → Prop
 | .inl a0 => Qdr c (.exit 1) (mkS [(4,I a0)] [])
 | .inr r => Qe0 TIx Tryz.f134 [] (I r)
def Kpw : Option (List (List Nat)) := rx [[0],[0],[0],[0,2],[0,2,3],[0,2,3,4],[6],[7]]
mutual
def Kpx (p : K01 × Int × Int) : Option (Int) :=
 match p with
 | (t0,n1,nodes4) =>
  (Kl5 t0.fOp) >>= fun (a0,a1) =>
  ((
  if a1 = true then
  if (decide ((wr (nodes4 + 1)) > 400)) = true then
   some (true)
  else
   some (((t0.fKids.length : Int) != a0.fkids))
  else
  some (true)
  ) : Option (Bool)) >>= fun a2 =>
  if a2 = true then
  some 401
  else
  ((
  if (t0.fOp == 0) = true then
   (Kir (t0.fN,0,(wr (n1 - 1)))) >>= fun a3 =>
   some (a3)
  else
   ((
   if (t0.fOp == 1) = true then
   (Kir (t0.fN,0,2)) >>= fun a4 =>
   some (a4)
   else
   ((
   if a0.fgrade = true then
   (Kps t0.fN) >>= fun a5 =>
   some (a5)
   else
   some ((t0.fN == 0))
   ) : Option (Bool)) >>= fun a6 =>
   some (a6)
   ) : Option (Bool)) >>= fun a7 =>
   some (a7)
  ) : Option (Bool)) >>= fun a8 =>
  ((
  if a0.ftyped = true then
   ((
   if a8 = true then
   (Kkf t0.fType) >>= fun a9 =>
   some (a9)
   else
   some (false)
   ) : Option (Bool)) >>= fun b1 =>
   some (b1)
  else
   ((
   if a8 = true then
   some (((t0.fType.length : Int) == 0))
   else
   some (false)
   ) : Option (Bool)) >>= fun b2 =>
   some (b2)
  ) : Option (Bool)) >>= fun b3 =>
  if b3 = true then
  (Kpy (t0,n1,(wr (nodes4 + 1)),0)) >>= fun fl => match fl with
  | .inl b4 =>
   some b4
  | .inr r =>
   some r
  else
  some 401
 partial_fixpoint
def Kpy (p : K01 × Int × Int × Int) : Option ((Int) ⊕ (Int)) :=
 match p with
 | (t0,n1,a0,a1) =>
  if (decide (a1 < (t0.fKids.length : Int))) = true then
  (idx t0.fKids a1) >>= fun a2 =>
  (Klb (t0.fOp,a1)) >>= fun a3 =>
  (Kpx (a2,(wr (n1 + a3)),a0)) >>= fun a4 =>
  if (decide (a4 > 400)) = true then
  some (.inr 401)
  else
  Kpy (t0,n1,a4,(wr (a1 + 1)))
  else
  some (.inl a0)
 partial_fixpoint
end
def Kpz (p : K01 × Int × Int) (r : Int) : Prop :=
 match p with
 | (t0,n1,nodes4) => Q77 Tryz.prog 134 [K1z t0,I n1,.fn 189 [],.fn 159 [],I nodes4] (I r) []
def Kq0 (p : K01 × Int × Int × Int) (fl : (Int) ⊕ (Int)) : Prop :=
 match p with
 | (t0,n1,a0,a1) => ∀ c : Ctx,c.nt = 104 → WpL Tryz.prog c (cl (cl (cr (cl (cr (cr (cr (cr (cr (cr (cr K7o))))))))))) (Kpv c fl) (mkS [(1,I n1),(2,.fn 189 []),(3,.fn 159 []),(4,I a0),(5,.ra 1 0),(82,sM K0h t0.fKids),(83,I (t0.fKids.length : Int)),(84,I a1)] [(1,K1y t0)])
theorem Kq1 : (∀ p r,Kpx p = some r → Kpz p r) ∧ (∀ p r,Kpy p = some r → Kq0 p r) := by
 refine Kpx.mutual_partial_correctness Kpz Kq0 ?_ ?_
 ·rintro impl_check_Kimpl_writtenSize_c1_Kimpl_isWrittenType_l0_f impl_check_Kimpl_writtenSize_c1_Kimpl_isWrittenType_l0_ih ⟨t0,n1,nodes4⟩ r h
  refine b0 Tryz.f134 K7o 104 [(0,K1z t0),(1,I n1),(2,.fn 189 []),(3,.fn 159 []),(4,I nodes4)] fun c hc => (rsd hc none [nW 1,oN] [0] [(5,.ra 1 0)] [(1,K1y t0)] tv (K9h hc 3 [4] [(4,I (wr (nodes4 + 1)))] ?_))
  obtain ⟨⟨a0,a1⟩,a2,h⟩ := Qe5 h
  refine rsd hc none [oN,oN,oc (.tup [.agg [.str a0.fword,I a0.fkids,.bool a0.fgrade,.bool a0.ftyped],.bool a1]),oN,oN,oN,nW 2,oN,oN] [] [(11,.ra 2 0),(12,.bool a1)] [(1,K1y t0),(2,.box [.str a0.fword,I a0.fkids,.bool a0.fgrade,.bool a0.ftyped])] (cq (Kl7 _ _ a2) K7j tv) (sN (sN ?_))
  obtain ⟨a3,a4,h⟩ := Qe5 h
  refine wi [12] [(36,.bool a3)] ?_ ?_
  ·replace h := a4
   rcases is h with ⟨a5,h⟩ | ⟨a5,h⟩
   ·rcases is h with ⟨a6,h⟩ | ⟨a6,h⟩
    ·obtain rfl := os h
     exact rj hc none (nN 5 ([oF,oN]++n_ 6 [oT])) (ar 3 (nF a5) (ar 6 (neF a6) (ai a6 tv)))
    obtain rfl := os h
    exact rj hc none (nN 5 [oF,oN,oN,oN,nQ ⟨[(32,I (t0.fKids.length : Int))],[],[]⟩,oN,oN,oN,oF]) (ar 3 (nF a5) (ar 3 a6 (ai (Qeb (d := 32) K0h t0.fKids) (ar 4 a6 tv))))
   obtain rfl := os h
   exact rj hc none ([oN,oN,oN,o_,o_,oT,oN]++n_ 6 [oT]) (ar 2 (neF (nT a5)) (ai (nT a5) (ar 6 nf (ai tt tv))))
  clear a4
  refine ic h (fun a7 h => ?_) fun a7 h => ?_
  ·obtain rfl := os h
   exact rs0 hc 1 [(10,I 401)] [] (rt (rq [true]))
  refine sk (sN (bk 0 (K9h hc 4 [36] [(40,.bool (t0.fOp == 0))] ?_)))
  obtain ⟨a8,a9,h⟩ := Qe5 h
  refine Wp.into (x := .normal) (mkS [(1,I n1),(2,.fn 189 []),(3,.fn 159 []),(4,I (wr (nodes4 + 1))),(5,.ra 1 0),(11,.ra 2 0),(12,.bool a8)] [(1,K1y t0),(2,.box [.str a0.fword,I a0.fkids,.bool a0.fgrade,.bool a0.ftyped])]) ?_ ?_
  ·replace h := a9
   refine ic h (fun b1 h => ?_) fun b1 h => ?_
   ·obtain ⟨b2,b3,h⟩ := Qe5 h
    obtain rfl := os h
    exact rj hc none (nN 4 [oc (.bool b2),oN]) (cq (Kit _ _ b3) K6q tv)
   refine K9e hc 4 [(1,I n1),(2,.fn 189 []),(3,.fn 159 []),(4,I (wr (nodes4 + 1))),(5,.ra 1 0),(11,.ra 2 0),(49,.bool (t0.fOp == 1))] ?_
   obtain ⟨b4,b5,h⟩ := Qe5 h
   refine wi [49] [(12,.bool b4)] ?_ ?_
   ·replace h := b5
    refine ic h (fun b6 h => ?_) fun b6 h => ?_
    ·obtain ⟨b7,b8,h⟩ := Qe5 h
     obtain rfl := os h
     exact rj hc none [oN,oN,oc (.bool b7),oN] (cq (Kit _ _ b8) K6q tv)
    refine K9h hc 3 [49] [(56,.bool a0.fgrade)] ?_
    obtain ⟨b9,c0,h⟩ := Qe5 h
    refine wi [56] [(12,.bool b9)] ?_ ?_
    ·replace h := c0
     refine ic h (fun c1 h => ?_) fun c1 h => ?_
     ·obtain ⟨c2,c3,h⟩ := Qe5 h
      obtain rfl := os h
      exact rj hc none [oN,oN,oN,oc (.bool c2),oN] (cq (Kpu _ _ c3) K93 tv)
     obtain rfl := os h
     exact rj0 hc 4
    clear c0
    obtain rfl := os h
    exact im
   clear b5
   obtain rfl := os h
   exact im
  clear a9
  refine sN (K9f hc 2 [11] [(64,.bool a0.ftyped)] [(1,K1y t0)] ?_)
  obtain ⟨c4,c5,h⟩ := Qe5 h
  refine wi [64,12] [(12,.bool c4)] ?_ ?_
  ·replace h := c5
   refine ic h (fun c6 h => ?_) fun c6 h => ?_
   ·obtain ⟨c7,c8,h⟩ := Qe5 h
    refine wi [64,12] [(12,.bool c7)] ?_ ?_
    ·replace h := c8
     rcases is h with ⟨c9,h⟩ | ⟨c9,h⟩
     ·obtain ⟨d0,d1,h⟩ := Qe5 h
      obtain rfl := os h
      exact rj hc none (nN 5 [oc (.bool d0),oT,oN]) (ar 4 c9 (cq (Kkh _ _ d1) K78 (ai c9 tv)))
     obtain rfl := os h
     exact rj hc none ([oN,oN]++n_ 4 [oF,oN]) (ar 4 (neT c9) (ai c9 tv))
    clear c8
    obtain rfl := os h
    exact im
   obtain ⟨d2,d3,h⟩ := Qe5 h
   refine wi [64,12] [(12,.bool d2)] ?_ ?_
   ·replace h := d3
    rcases is h with ⟨d4,h⟩ | ⟨d4,h⟩
    ·obtain rfl := os h
     exact rj hc none (nN 4 [nQ ⟨[(76,I (t0.fType.length : Int))],[],[]⟩,oN,oT,oN]) (ar 3 d4 (ai (Qeb (d := 76) I t0.fType) (ar 2 d4 tv)))
    obtain rfl := os h
    exact rj hc none ([oN,oN]++n_ 4 [oF,oN]) (ar 4 (neT d4) (ai d4 tv))
   clear d3
   obtain rfl := os h
   exact im
  clear c5
  refine sN (K9h hc 2 [12] [(80,.bool (!c4))] ?_)
  rcases is h with ⟨d5,h⟩ | ⟨d5,h⟩
  ·refine cF (!c4) (nF d5) (sk (sN (rss hc none [oN,oN,nQ ⟨[(83,I (t0.fKids.length : Int))],[],[]⟩,oN] [(1,I n1),(2,.fn 189 []),(3,.fn 159 []),(4,I (wr (nodes4 + 1))),(5,.ra 1 0),(82,sM K0h t0.fKids),(83,I (t0.fKids.length : Int)),(84,I 0)] (ai (Qeb (d := 83) K0h t0.fKids) tv) (bk 1 ?_))))
   obtain ⟨fl,d6,h⟩ := Qe5 h
   have hL := impl_check_Kimpl_writtenSize_c1_Kimpl_isWrittenType_l0_ih _ _ d6 c hc
   refine lp ?_
   rcases fl with d7 | r
   ·refine wl hL ?_
    obtain rfl := os h
    exact Qdj (rs0 hc 2 [(10,I d7)] [] (rt (rq [true])))
   refine WpL.mono hL ?_
   rintro _ _ ⟨rfl,hfin⟩
   obtain rfl := os h
   exact ⟨.inl rfl,hfin⟩
  refine cT (!c4) (nT d5) ?_
  obtain rfl := os h
  exact rs0 hc 1 [(10,I 401)] [] (rt (rq [true]))
 ·rintro impl_check_Kimpl_writtenSize_c1_Kimpl_isWrittenType_f impl_check_Kimpl_writtenSize_c1_Kimpl_isWrittenType_l0_f impl_check_Kimpl_writtenSize_c1_Kimpl_isWrittenType_ih impl_check_Kimpl_writtenSize_c1_Kimpl_isWrittenType_l0_ih ⟨t0,n1,d8,d9⟩ r h
  intro c hc
  refine WpL.step (K9h hc 1 [] [(85,.bool (decide (d9 < (t0.fKids.length : Int))))] (sN (ic h (fun e0 h => ?_) fun e0 h => ?_)))
  ·refine sk (sN (bk 2 ?_))
   obtain ⟨e1,e2,h⟩ := Qe5 h
   refine rsd hc none [oN,eL (K1z e1),oN,nW 4,oN,oN] [85] [(13,I d9),(14,.ra 4 0)] [(1,K1y t0),(4,K1y e1)] (ai (Qe9 e2 (K0o e1)) tv) ?_
   obtain ⟨e3,e4,e5,e6,h⟩ := bq2 h
   refine rsd hc (rx [[0],[0],[0],[0,2],[0],[0,2,3,4],[0,1,2,3,4,5],[0],[0],[0],[10],[11]]) (nN 5 ([oc (I e3)]++nN 4 [oc (I e5),oN])) [13,14,4] [(4,I e5)] [(1,K1y t0)] (cq (Kld _ _ e4) K7n (cq (impl_check_Kimpl_writtenSize_c1_Kimpl_isWrittenType_ih _ _ e6) K7p tv)) (K9h hc 2 [] [(101,.bool (decide (e5 > 400)))] (ic h (fun e7 h => ?_) fun e7 h => ?_))
   ·obtain rfl := os h
    exact rs0 hc 1 [(10,I 401)] [] (rt (re [true]))
   exact sk (ri0 hc 2 (Qdn (impl_check_Kimpl_writtenSize_c1_Kimpl_isWrittenType_l0_ih _ _ h c hc)))
  obtain rfl := os h
  exact xt 1 (Qdh (Qdo (iv [])))
theorem Kq2 : ∀ p r,Kpx p = some r → Kpz p r := Kq1.1
theorem Kq3 : ∀ p r,Kpy p = some r → Kq0 p r := Kq1.2
def Kq4 (t0 : K01) : Option (Int) :=
 (Kpx (t0,8,0)) >>= fun a0 =>
 some a0
def Kq5 (t0 : K01) (r : Int) : Prop :=
 Q77 Tryz.prog 112 [K1z t0] (I r) []
theorem Kq6 : ∀ p r,Kq4 p = some r → Kq5 p r := by
 rintro t0 r h
 unfold Kq4 at h
 refine b0 Tryz.f112 K94 5 [(0,K1z t0)] fun c hc => (rs hc none [nW 1,oN] [(1,.ra 1 0)] [(1,K1y t0)] tv ?_)
 obtain ⟨a0,a1,h⟩ := Qe5 h
 obtain rfl := os h
 exact rs hc none [oN,oc (I a0),oN] [(2,I a0)] [] (cq (Kq2 _ _ a1) K7p tv) (rt (rq [true]))
def Kq7 (t0 : K01) : Option (Int) :=
 (Kq4 t0) >>= fun a0 =>
 if (decide (a0 > 400)) = true then
 some (-1)
 else
 some a0
def Kq8 (t0 : K01) (r : Int) : Prop :=
 Q77 Tryz.prog 44 [K1z t0] (I r) []
theorem Kq9 : ∀ p r,Kq7 p = some r → Kq8 p r := by
 rintro t0 r h
 unfold Kq7 at h
 refine b0 Tryz.f44 B44 9 [(0,K1z t0)] fun c hc => (rs hc none [nW 1,oN] [(1,.ra 1 0)] [(1,K1y t0)] tv ?_)
 obtain ⟨a0,a1,h⟩ := Qe5 h
 refine rs hc none [oN,oc (I a0),oN] [(3,I a0)] [] (cq (Kq6 _ _ a1) K95 tv) (sN (K9f hc 2 [] [(7,.bool (decide (a0 > 400)))] [] (ic h (fun a2 h => ?_) fun a2 h => ?_)))
 ·obtain rfl := os h
  exact rs0 hc 1 [(2,I (-1))] [] (rt (rq [true]))
 obtain rfl := os h
 exact sk (rs0 hc 2 [(2,I a0)] [] (rt (rq [true])))
def Kqa (c : Ctx) : (Unit) ⊕ (Bool) → Exit → Q0a → Prop
 | .inl _ => Qdr c (.exit 0) (mkS [] [])
 | .inr r => Qe0 TIx Tryz.f25 [] (.bool r)
def Kqb (p : (List Int) × (List Int) × Int) : Option ((Unit) ⊕ (Bool)) :=
 match p with
 | (a0,b1,a1) =>
  if (decide (a1 < (a0.length : Int))) = true then
  (idx a0 a1) >>= fun a2 =>
  (idx b1 a1) >>= fun a3 =>
  if (a2 != a3) = true then
  some (.inr false)
  else
  Kqb (a0,b1,(wr (a1 + 1)))
  else
  some (.inl ())
 partial_fixpoint
def Kqc (p : (List Int) × (List Int) × Int) (fl : (Unit) ⊕ (Bool)) : Prop :=
 match p with
 | (a0,b1,a1) => ∀ c : Ctx,c.nt = 26 → WpL Tryz.prog c (cl (cl (cr (cl (cr (cr B25)))))) (Kqa c fl) (mkS [(0,sI a0),(1,sI b1),(5,I a1)] [])
theorem Kqd : ∀ p r,Kqb p = some r → Kqc p r := by
 refine Kqb.partial_correctness Kqc ?_
 rintro laws_ints_l0_f laws_ints_l0_ih ⟨a0,b1,a1⟩ r h
 intro c hc
 refine WpL.step (sN (rsd hc none [oN,oN,nQ ⟨[(13,I (a0.length : Int))],[],[]⟩,oN] [] [(14,.bool (decide (a1 < (a0.length : Int))))] [] (ai (Qeb (d := 13) I a0) tv) (ic h (fun a2 h => ?_) fun a2 h => ?_)))
 ·refine sk (sN (bk 1 ?_))
  obtain ⟨a3,a4,a5,a6,h⟩ := bq2 h
  refine rsd hc (rx [[0],[0],[2],[3],[0],[0],[0,4,5],[0,4,5,6],[8]]) [oN,oN,eL (I a3),oN,oN,oN,eL (I a5),oN,oN] [14] [(25,.bool (a3 != a5))] [] (ab (ix a4) (ix a6) tv) (ic h (fun a7 h => ?_) fun a7 h => ?_)
  ·obtain rfl := os h
   exact rs0 hc 1 [(4,.bool false)] [] (rt (re [true]))
  exact sk (ri0 hc 3 (Qdn (laws_ints_l0_ih _ _ h c hc)))
 obtain rfl := os h
 exact xt 0 (Qdh (Qdo (iv [])))
def Kqe (p : (List Int) × (List Int)) : Option (Bool) :=
 match p with
 | (a0,b1) =>
  if ((a0.length : Int) != (b1.length : Int)) = true then
  some false
  else
  (Kqb (a0,b1,0)) >>= fun fl => match fl with
  | .inl () =>
   some true
  | .inr r =>
   some r
def Kqf (p : (List Int) × (List Int)) (r : Bool) : Prop :=
 match p with
 | (a0,b1) => Q77 Tryz.prog 25 [sI a0,sI b1] (.bool r) []
theorem Kqg : ∀ p r,Kqe p = some r → Kqf p r := by
 rintro ⟨a0,b1⟩ r h
 unfold Kqe at h
 refine b0 Tryz.f25 B25 26 [(0,sI a0),(1,sI b1)] fun c hc => (K9f hc 1 [] [] [] (sN (rsd hc none [oN,nQ ⟨[(7,I (a0.length : Int))],[],[]⟩,oN,nQ ⟨[(9,I (b1.length : Int))],[],[]⟩,oN] [] [(10,.bool ((a0.length : Int) != (b1.length : Int)))] [] (ab (Qeb (d := 7) I a0) (Qeb (d := 9) I b1) tv) (ic h (fun a1 h => ?_) fun a1 h => ?_))))
 ·obtain rfl := os h
  exact rs0 hc 1 [(4,.bool false)] [] (rt (rq [true]))
 refine sk (sN (rs0 hc 1 [(0,sI a0),(1,sI b1),(5,I 0)] [] (bk 0 ?_)))
 obtain ⟨fl,a2,h⟩ := Qe5 h
 have hL := Kqd _ _ a2 c hc
 refine lp ?_
 rcases fl with ⟨⟩ | r
 ·refine wl hL ?_
  obtain rfl := os h
  exact Qdj (rs0 hc 1 [(4,.bool true)] [] (rt (rq [true])))
 refine WpL.mono hL ?_
 rintro _ _ ⟨rfl,hfin⟩
 obtain rfl := os h
 exact ⟨.inl rfl,hfin⟩
def Kqh (c : Ctx) : (Unit) ⊕ (Bool) → Exit → Q0a → Prop
 | .inl _ => Qdr c (.exit 0) (mkS [] [])
 | .inr r => Qe0 TIx Tryz.f62 [] (.bool r)
def Kqi (p : LL × LL × Int) : Option ((Unit) ⊕ (Bool)) :=
 match p with
 | (a0,b1,a1) =>
  if (decide (a1 < (a0.length : Int))) = true then
  (idx a0 a1) >>= fun a2 =>
  (idx b1 a1) >>= fun a3 =>
  (Kqe (a2,a3)) >>= fun a4 =>
  if a4 = true then
  Kqi (a0,b1,(wr (a1 + 1)))
  else
  some (.inr false)
  else
  some (.inl ())
 partial_fixpoint
def Kqj (p : LL × LL × Int) (fl : (Unit) ⊕ (Bool)) : Prop :=
 match p with
 | (a0,b1,a1) => ∀ c : Ctx,c.nt = 27 → WpL Tryz.prog c (cl (cl (cr (cl (cr (cr B62)))))) (Kqh c fl) (mkS [(0,sL a0),(1,sL b1),(5,I a1)] [])
theorem Kqk : ∀ p r,Kqi p = some r → Kqj p r := by
 refine Kqi.partial_correctness Kqj ?_
 rintro laws_lists_l0_f laws_lists_l0_ih ⟨a0,b1,a1⟩ r h
 intro c hc
 refine WpL.step (sN (rsd hc none [oN,oN,nQ ⟨[(13,I (a0.length : Int))],[],[]⟩,oN] [] [(14,.bool (decide (a1 < (a0.length : Int))))] [] (ai (Qeb (d := 13) K14 a0) tv) (ic h (fun a2 h => ?_) fun a2 h => ?_)))
 ·refine sk (sN (bk 1 ?_))
  obtain ⟨a3,a4,a5,a6,a7,a8,h⟩ := bq3 h
  refine rsd hc (rx [[0],[0],[2],[3],[0],[0],[0,4,5],[0,4,5,6],[8],[9]]) [oN,oN,eL (sI a3),oN,oN,oN,eL (sI a5),oN,oc (.bool a7),oN] [14] [(26,.bool (!a7))] [] (ab (xL a4) (xL a6) (cq (Kqg _ _ a8) K97 tv)) ?_
  rcases is h with ⟨a9,h⟩ | ⟨a9,h⟩
  ·exact cF (!a7) (nF a9) (sk (ri0 hc 3 (Qdn (laws_lists_l0_ih _ _ h c hc))))
  refine cT (!a7) (nT a9) ?_
  obtain rfl := os h
  exact rs0 hc 1 [(4,.bool false)] [] (rt (re [true]))
 obtain rfl := os h
 exact xt 0 (Qdh (Qdo (iv [])))
def Kql (p : LL × LL) : Option (Bool) :=
 match p with
 | (a0,b1) =>
  if ((a0.length : Int) != (b1.length : Int)) = true then
  some false
  else
  (Kqi (a0,b1,0)) >>= fun fl => match fl with
  | .inl () =>
   some true
  | .inr r =>
   some r
def Kqm (p : LL × LL) (r : Bool) : Prop :=
 match p with
 | (a0,b1) => Q77 Tryz.prog 62 [sL a0,sL b1] (.bool r) []
theorem Kqn : ∀ p r,Kql p = some r → Kqm p r := by
 rintro ⟨a0,b1⟩ r h
 unfold Kql at h
 refine b0 Tryz.f62 B62 27 [(0,sL a0),(1,sL b1)] fun c hc => (K9f hc 1 [] [] [] (sN (rsd hc none [oN,nQ ⟨[(7,I (a0.length : Int))],[],[]⟩,oN,nQ ⟨[(9,I (b1.length : Int))],[],[]⟩,oN] [] [(10,.bool ((a0.length : Int) != (b1.length : Int)))] [] (ab (Qeb (d := 7) K14 a0) (Qeb (d := 9) K14 b1) tv) (ic h (fun a1 h => ?_) fun a1 h => ?_))))
 ·obtain rfl := os h
  exact rs0 hc 1 [(4,.bool false)] [] (rt (rq [true]))
 refine sk (sN (rs0 hc 1 [(0,sL a0),(1,sL b1),(5,I 0)] [] (bk 0 ?_)))
 obtain ⟨fl,a2,h⟩ := Qe5 h
 have hL := Kqk _ _ a2 c hc
 refine lp ?_
 rcases fl with ⟨⟩ | r
 ·refine wl hL ?_
  obtain rfl := os h
  exact Qdj (rs0 hc 1 [(4,.bool true)] [] (rt (rq [true])))
 refine WpL.mono hL ?_
 rintro _ _ ⟨rfl,hfin⟩
 obtain rfl := os h
 exact ⟨.inl rfl,hfin⟩
def Kqo (code0 : (List Int)) : Option (Bool) :=
 (K9j code0) >>= fun a0 =>
 if a0 = true then
 some true
 else
 (Kio code0) >>= fun (a1,a2,a3) =>
 (Kpe (a1,a2,a3)) >>= fun (a4,a5,a6) =>
 (Kpp (a1,a2,a3)) >>= fun a7 =>
 if a6 = true then
 ((
 (Kq7 a3) >>= fun a8 =>
 if ((a7.length : Int) != a8) = true then
 some (true)
 else
 (idx a7 0) >>= fun a9 =>
 (Kqe (a9,a4)) >>= fun b1 =>
 some ((!b1))
 ) : Option (Bool)) >>= fun b2 =>
 if b2 = true then
 some false
 else
 if (decide ((a3.fKids.length : Int) < 2)) = true then
 some true
 else
 if (a3.fOp == 4) = true then
 (idx a3.fKids 0) >>= fun b3 =>
 (Kpp (a1,a2,b3)) >>= fun b4 =>
 (idx a3.fKids 1) >>= fun b5 =>
 (Kpp (a1,a2,b5)) >>= fun b6 =>
 (cut a7 (some 1) none none) >>= fun b7 =>
 (Qei (([] : LL).length + b4.length) 24) >>= fun _ =>
 (Qei (b4.length + b6.length) 24) >>= fun _ =>
 (Kql (b7,(b4 ++ b6))) >>= fun b8 =>
 some b8
 else
 some true
 else
 some ((a7.length : Int) == 0)
def Kqp (code0 : (List Int)) (r : Bool) : Prop :=
 Q77 Tryz.prog 11 [sM U8 code0] (.bool r) []
theorem Kqq : ∀ p r,Kqo p = some r → Kqp p r := by
 rintro code0 r h
 unfold Kqo at h
 refine b0 Tryz.f11 B11 79 [(0,sM U8 code0)] fun c hc => (K9f hc 1 [] [] [] (sN ?_))
 obtain ⟨a0,a1,h⟩ := Qe5 h
 refine rsd hc none [oN,oc (.bool a0)] [] [(13,.bool a0)] [] (cq (K9l _ _ a1) K3e tv) (ic h (fun a2 h => ?_) fun a2 h => ?_)
 ·obtain rfl := os h
  exact rs0 hc 1 [(2,.bool true)] [] (rt (rq [true]))
 refine sk ?_
 obtain ⟨⟨a3,a4,a5⟩,a6,h⟩ := Qe5 h
 refine rs hc none ([oN,oc (.tup [K1w a3,.osl (List.map K14 a4),K1z a5])]++nN 4 [nW 2,nW 3,oN,oN,oN]) [(3,.ra 2 0),(4,.rs 1),(5,.ra 3 0)] [(1,rM K14 a4),(2,K1v a3),(3,K1y a5)] (cq (Kiq _ _ a6) K6p tv) ?_
 obtain ⟨⟨a7,a8,a9⟩,b1,h⟩ := Qe5 h
 refine rsd hc none ([oN,oN,oN,some (.call (.tup [oI a7,oI a8,.bool a9]) [] 4)]++nN 7 []) [] [(6,.rs 4),(8,.bool a9)] [(1,rM K14 a4),(2,K1v a3),(3,K1y a5),(4,rI a7)] (ac (Q77.args (A1 := [K1w a3,.sl (Q02 (List.map K14 a4)),K1z a5]) (A2 := [K1w a3,sL a4,K1z a5]) (by simp only [List.map_nil,K18]) (Kpg _ _ b1)) K8y (Or.inr (Qf7 (Qf5 Qf1 a7) (Qf7 (Qf5 Qf1 a8) (Qf7 rfl rfl))) : ([1] : List Nat) = [] ∨ noSh (.tup [oI a7,oI a8,.bool a9]) = true) tv) ?_
 obtain ⟨b2,b3,h⟩ := Qe5 h
 refine rsd hc none [oN,oN,oN,some (.call (oM K10 b2) [] 6),oN] [] [(9,.rs 6)] [(1,rM K14 a4),(2,K1v a3),(3,K1y a5),(4,rI a7),(6,rM K10 b2)] (ac (Q77.args (A1 := [K1w a3,.sl (Q02 (List.map K14 a4)),K1z a5]) (A2 := [K1w a3,sL a4,K1z a5]) (by simp only [List.map_nil,K18]) (Kpr _ _ b3)) K91 (Or.inr (Qf5 K1a b2) : ([1] : List Nat) = [] ∨ noSh (oM K10 b2) = true) tv) (sN (K9e hc 2 [(3,.ra 2 0),(4,.rs 1),(5,.ra 3 0),(6,.rs 4),(9,.rs 6),(33,.bool (!a9))] ?_))
 rcases is h with ⟨b4,h⟩ | ⟨b4,h⟩
 ·refine cF (!a9) (nF b4) (sk (sN (sN (vz 6 (K19 b2) [(3,.ra 2 0),(4,.rs 1),(5,.ra 3 0),(6,.rs 4),(9,sL b2),(33,.bool (!a9))] [(1,rM K14 a4),(2,K1v a3),(3,K1y a5),(4,rI a7)] ?_))))
  obtain ⟨b5,b6,h⟩ := Qe5 h
  refine Wp.into (x := .normal) (mkS [(3,.ra 2 0),(4,.rs 1),(5,.ra 3 0),(9,sL b2),(49,.bool b5)] [(1,rM K14 a4),(2,K1v a3),(3,K1y a5)]) ?_ ?_
  ·replace h := b6
   obtain ⟨b7,b8,h⟩ := Qe5 h
   rcases is h with ⟨b9,h⟩ | ⟨b9,h⟩
   ·obtain rfl := os h
    exact rj hc none ([oN,nQ ⟨[(38,I (b2.length : Int))],[],[]⟩,oN,oc (I b7),oN,oN]++n_ 6 [oT]) (ai (Qeb (d := 38) K14 b2) (cq (Kq9 _ _ b8) K96 (ar 6 (neF b9) (ai b9 tv))))
   obtain ⟨c0,c1,c2,c3,h⟩ := bq2 h
   obtain rfl := os h
   exact rj hc none [oN,nQ ⟨[(38,I (b2.length : Int))],[],[]⟩,oN,oc (I b7),oN,oN,oN,eL (sI c0),oN,oN,oc (.bool c2),oN,oF] (ai (Qeb (d := 38) K14 b2) (cq (Kq9 _ _ b8) K96 (ar 2 b9 (ai (xL c1) (ar 3 b9 (ac (Q77.args (A1 := [sI c0,.sl (Q02 (List.map I a7))]) (A2 := [sI c0,sI a7]) (by simp only [List.map_nil,Qex]) (Kqg _ _ c3)) K97 (Or.inr rfl : ([4] : List Nat) = [] ∨ noSh (.bool c2) = true) (ar 2 b9 tv)))))))
  clear b6
  refine ic h (fun c4 h => ?_) fun c4 h => ?_
  ·obtain rfl := os h
   exact rs0 hc 1 [(2,.bool false)] [] (rt (rq [true]))
  refine sk (sN (K9g hc none [oN,oN,nQ ⟨[(52,I (a5.fKids.length : Int))],[],[]⟩,oN] [49] [(53,.bool (decide ((a5.fKids.length : Int) < 2)))] (ai (Qeb (d := 52) K0h a5.fKids) tv) (ic h (fun c5 h => ?_) fun c5 h => ?_)))
  ·obtain rfl := os h
   exact rs0 hc 1 [(2,.bool true)] [] (rt (rq [true]))
  refine sk (sN (K9h hc 3 [53] [(56,.bool (a5.fOp == 4))] (ic h (fun c6 h => ?_) fun c6 h => ?_)))
  ·obtain ⟨c7,c8,c9,d0,h⟩ := bq2 h
   refine rsd hc Kpw (nN 4 [eL (K1z c7),oN,some (.call (oM K10 c9) [] 7),oN]) [56] [(10,.rs 7)] [(1,rM K14 a4),(2,K1v a3),(3,K1y a5),(7,rM K10 c9)] (ad (Qe9 c8 (K0o c7)) (Q77.args (A1 := [K1w a3,.sl (Q02 (List.map K14 a4)),K1z c7]) (A2 := [K1w a3,sL a4,K1z c7]) (by simp only [List.map_nil,K18]) (Kpr _ _ d0)) K91 (Or.inr (Qf5 K1a c9) : ([1] : List Nat) = [] ∨ noSh (oM K10 c9) = true) tv) ?_
   obtain ⟨d1,d2,d3,d4,h⟩ := bq2 h
   refine rsd hc Kpw (nN 4 [eL (K1z d1),oN,some (.call (oM K10 d3) [] 8),oN]) [3,4,5] [(11,.rs 8)] [(7,rM K10 c9),(8,rM K10 d3)] (ad (Qe9 d2 (K0o d1)) (Q77.args (A1 := [K1w a3,.sl (Q02 (List.map K14 a4)),K1z d1]) (A2 := [K1w a3,sL a4,K1z d1]) (by simp only [List.map_nil,K18]) (Kpr _ _ d4)) K91 (Or.inr (Qf5 K1a d3) : ([1] : List Nat) = [] ∨ noSh (oM K10 d3) = true) tv) ?_
   obtain ⟨d5,d6,_,d7,_,d8,d9,e0,h⟩ := bq4 h
   obtain rfl := os h
   exact rs hc (rx [[0],[1],[0],[0],[0,2,3],[0],[0,2,3,4,5],[7],[8]]) [oN,nQ ⟨[(72,sL d5)],[],[]⟩,mK 9,oN,some (.eqv (.mk 10 true) ⟨[(75,.rs 10)],[(10,some (rM K10 c9)),(9,none),(7,none)],[10]⟩),oN,some (.eqv (.mk 11 true) ⟨[(77,.rs 11)],[(11,some (rM K10 (c9 ++ d3))),(10,none),(8,none)],[11]⟩),oc (.bool d9),oN] [(2,.bool d9)] [] (ad (Qee (d := 72) K14 d6) (Qed (enc := K14) (sz := 1) K16 d6) (congrArg (fun z => (⟨[(75,.rs 10)],[(10,some (.arr z)),(9,none),(7,none)],[10]⟩ : Wr)) (List.nil_append _ : [] ++ (List.map K10 c9) = List.map K10 c9)) (Qej (enc1 := K10) (enc2 := K10) (e1 := []) (e2 := c9) (sz := 1) K13 K13 d7) (ad (congrArg (fun z => (⟨[(77,.rs 11)],[(11,some (.arr z)),(10,none),(8,none)],[11]⟩ : Wr)) ((List.map_append).symm : (List.map K10 c9) ++ (List.map K10 d3) = List.map K10 (c9 ++ d3))) (Qej (enc1 := K10) (enc2 := K10) (e1 := c9) (e2 := d3) (sz := 1) K13 K13 d8) (Q77.args (A1 := [sL d5,.sl (Q02 (List.map K10 (c9 ++ d3)))]) (A2 := [sL d5,sL (c9 ++ d3)]) (by simp only [List.map_nil,K19]) (Kqn _ _ e0)) K98 (ai (Or.inr rfl : ([11] : List Nat) = [] ∨ noSh (.bool d9) = true) tv))) (rt (rq [true]))
  obtain rfl := os h
  exact sk (rs0 hc 1 [(2,.bool true)] [] (rt (rq [true])))
 refine cT (!a9) (nT b4) ?_
 obtain rfl := os h
 exact rs hc none [oN,nQ ⟨[(35,I (b2.length : Int))],[],[]⟩,oN,oN] [(2,.bool ((b2.length : Int) == 0))] [] (ai (Qeb (d := 35) K10 b2) tv) (rt (rq [true]))
end Go.Am
