/- Walks, printed. -/
import Derived.Test.YtckgdfakjjdodaaGreatGFAF11
set_option linter.unusedVariables false
set_option linter.unusedSimpArgs false
set_option maxRecDepth 100000
namespace Go.Am
open Go Go.Proofs
def Kp4 : Option (List (List Nat)) := rx [[0],[1],[2],[3],[4],[5],[6],[7],[8],[9],[10],[11],[8],[8,12],[8,12,13],[8,12,13,14],[8,12,13,14,15],[8,12,13,14,15,16],[8,12,13,14,15,16,17],[8,12,13,14,15,16,17,18],[8,12,13,14,15,16,17,18,19],[8,12,13,14,15,16,17,18,19,20],[8,12,13,14,15,16,17,18,19,20,21],[8,12,13,14,15,16,17,18,19,20,21,22],[24],[25],[26]]
mutual
def Kp5 (p : K06 × LL × K01) : Option (K04) :=
 match p with
 | (p0,ctx1,t2) =>
  (chk (0 ≤ (ctx1.length : Int) ∧ (Int.toNat (ctx1.length : Int)) * 8 ≤ 140737488355328)) >>= fun _ =>
  (Kp6 (p0,ctx1,t2,[],[],[],0)) >>= fun fl => match fl with
  | .inl (a0,a1,a2) =>
   (Kp0 (p0,(K04.mk [] (List.replicate (Int.toNat (ctx1.length : Int)) 0) a0 0 []),ctx1,t2,a1,a2)) >>= fun (a3,a4) =>
   if (a3 != 0) = true then
   some (K04.mk [] [] [] a3 [])
   else
   some (K04.mk a4.fty a4.fneeds a4.fkids a3 a4.fpath)
  | .inr r =>
   some r
 partial_fixpoint
def Kp6 (p : K06 × LL × K01 × (List K04) × LL × LL × Int) : Option (((List K04) × LL × LL) ⊕ (K04)) :=
 match p with
 | (p0,ctx1,t2,a0,a1,a2,a3) =>
  if (decide (a3 < (t2.fKids.length : Int))) = true then
  (idx t2.fKids a3) >>= fun a4 =>
  ((
  if (decide (a3 > 0)) = true then
  some (true)
  else
  some ((t2.fOp == 9))
  ) : Option (Bool)) >>= fun a5 =>
  ((
  if a5 = true then
  ((
  if (decide (a3 > 0)) = true then
  (idx a0 0) >>= fun a6 =>
  some (a6.fty)
  else
  some ([])
  ) : Option ((List Int))) >>= fun a7 =>
  (Klx (t2,a3,a7)) >>= fun a8 =>
  some (a8)
  else
  some ([])
  ) : Option (LL)) >>= fun a9 =>
  (Kmb [a9,ctx1]) >>= fun b1 =>
  (Kp5 (p0,b1,a4)) >>= fun b2 =>
  if (b2.ffault != 0) = true then
  (Qe6 ([a3].length + b2.fpath.length) 8) >>= fun _ =>
  some (.inr (K04.mk [] [] [] b2.ffault ([a3] ++ b2.fpath)))
  else
  (Kmf (p0,t2,a3,b2.fty)) >>= fun b3 =>
  if (b3 != 0) = true then
  some (.inr (K04.mk [] [] [] b3 []))
  else
  ((
  if (t2.fOp == 10) = true then
  if (a3 == 1) = true then
  (idx a0 0) >>= fun b4 =>
  (Klu b4.fty) >>= fun b5 =>
  (idx b5 0) >>= fun b6 =>
  (Kmm (b2.fty,b6)) >>= fun b7 =>
  some ((!b7))
  else
  some (false)
  else
  some (false)
  ) : Option (Bool)) >>= fun b8 =>
  if b8 = true then
  some (.inr (K04.mk [] [] [] 3 []))
  else
  (Qe6 (a0.length + [b2].length) 8) >>= fun _ =>
  (cut b2.fneeds none (some (a9.length : Int)) none) >>= fun b9 =>
  (Qe6 (a2.length + [b9].length) 24) >>= fun _ =>
  (cut b2.fneeds (some (a9.length : Int)) none none) >>= fun c0 =>
  (Qe6 (a1.length + [c0].length) 24) >>= fun _ =>
  Kp6 (p0,ctx1,t2,(a0 ++ [b2]),(a1 ++ [c0]),(a2 ++ [b9]),(wr (a3 + 1)))
  else
  some (.inl (a0,a1,a2))
 partial_fixpoint
end
def Kp7 (p : K06 × LL × K01) (r : K04) : Prop :=
 match p with
 | (p0,ctx1,t2) => Q75 Tryz.prog 173 [K2b p0,sL ctx1,K1z t2] (.ptr [sI r.fty,sI r.fneeds,sM K07 r.fkids,I r.ffault,sI r.fpath] 0) []
def Kp8 (p : K06 × LL × K01 × (List K04) × LL × LL × Int) (fl : ((List K04) × LL × LL) ⊕ (K04)) : Prop :=
 match p with
 | (p0,ctx1,t2,a0,a1,a2,a3) => ∀ c : Ctx,c.nt = 171 → WpL Tryz.prog c (cl (cl (cr (cl (cr (cr (cr (cr K7x)))))))) (Kp3 c p0 ctx1 t2 fl) (mkS [(1,sL ctx1),(3,.ra 1 0),(5,.ra 2 0),(7,.ra 4 0),(8,.rs 21),(9,.rs 22),(22,sM K0h t2.fKids),(23,I (t2.fKids.length : Int)),(24,I a3)] [(1,K2a p0),(2,K1y t2),(3,.arr (List.map I (List.replicate (Int.toNat (ctx1.length : Int)) 0))),(4,.box [.nils,.rs 3,.rs 20,I 0,.nils]),(20,rM K07 a0),(21,rM K14 a1),(22,rM K14 a2)])
theorem Kp9 : (∀ p r,Kp5 p = some r → Kp7 p r) ∧ (∀ p r,Kp6 p = some r → Kp8 p r) := by
 refine Kp5.mutual_partial_correctness Kp7 Kp8 ?_ ?_
 ·rintro impl_typertyp_l0_f impl_typertyp_l0_ih ⟨p0,ctx1,t2⟩ r h
  refine b0 Tryz.f173 K7x 171 [(0,K2b p0),(1,sL ctx1),(2,K1z t2)] fun c hc => (rsd hc none [nW 1,nW 2,oN] [0,2] [(3,.ra 1 0),(5,.ra 2 0)] [(1,K2a p0),(2,K1y t2)] tv ?_)
  obtain ⟨_,a0,h⟩ := Qdt h
  refine rsd hc none [oN,nQ ⟨[(17,I (ctx1.length : Int))],[],[]⟩,some (.eqv (.mk 3 true) ⟨[(18,.rs 3)],[(3,some (.arr (List.map I (List.replicate (Int.toNat (ctx1.length : Int)) 0))))],[3]⟩),oN,nW 4,oN] [] [(7,.ra 4 0)] [(1,K2a p0),(2,K1y t2),(3,.arr (List.map I (List.replicate (Int.toNat (ctx1.length : Int)) 0))),(4,.box [.nils,.rs 3,.nils,I 0,.nils])] (ac (Qdz (d := 17) K14 ctx1) (congrArg (fun z => (⟨[(18,.rs 3)],[(3,some (.arr z))],[3]⟩ : Wr)) (Qey (enc := I) (n := Int.toNat (ctx1.length : Int)) (x := I 0) (Qe8 0))) (And.intro (Eq.refl (ctx1.length : Int)) (Qdv a0)) tv) (K9i hc 1 [] [(8,.nils)] (K9i hc 1 [] [(9,.nils)] (sN (rss hc none [oN,oN,nQ ⟨[(23,I (t2.fKids.length : Int))],[],[]⟩,oN] [(1,sL ctx1),(3,.ra 1 0),(5,.ra 2 0),(7,.ra 4 0),(8,.nils),(9,.nils),(22,sM K0h t2.fKids),(23,I (t2.fKids.length : Int)),(24,I 0)] (ai (Qdz (d := 23) K0h t2.fKids) tv) (bk 0 ?_)))))
  obtain ⟨fl,a1,h⟩ := Qdt h
  have hL := impl_typertyp_l0_ih _ _ a1 c hc
  refine Wp.loopN (by kernel_rfl) (WpL.view (fun a w hv => SRx.renL [(20,57),(21,58),(22,59)] (SRx.nilTL 9 59 (SRx.nilTL 8 58 (SRx.nilBL 4 2 57 [.nils,.rs 3,.nils,I 0,.nils] hv (by kernel_rfl) (by kernel_rfl) (by kernel_rfl)) (by kernel_rfl) (by kernel_rfl)) (by kernel_rfl) (by kernel_rfl)) (by kernel_rfl) (by kernel_rfl) (by kernel_rfl)) (?_ : WpL _ c _ _ (mkS [(1,sL ctx1),(3,.ra 1 0),(5,.ra 2 0),(7,.ra 4 0),(8,.rs 21),(9,.rs 22),(22,sM K0h t2.fKids),(23,I (t2.fKids.length : Int)),(24,I 0)] [(1,K2a p0),(2,K1y t2),(3,.arr (List.map I (List.replicate (Int.toNat (ctx1.length : Int)) 0))),(4,.box [.nils,.rs 3,.rs 20,I 0,.nils]),(20,.arr (List.map K07 [])),(21,.arr (List.map K14 [])),(22,.arr (List.map K14 []))])))
  rcases fl with ⟨a2,a3,a4⟩ | r
  ·refine wl hL (Qd7 (sN (vz 21 (K18 a3) [(1,sL ctx1),(3,.ra 1 0),(5,.ra 2 0),(7,.ra 4 0),(8,sL a3),(9,.rs 22)] [(1,K2a p0),(2,K1y t2),(3,.arr (List.map I (List.replicate (Int.toNat (ctx1.length : Int)) 0))),(4,.box [.nils,.rs 3,.rs 20,I 0,.nils]),(20,rM K07 a2),(22,rM K14 a4)] (vz 22 (K18 a4) [(1,sL ctx1),(3,.ra 1 0),(5,.ra 2 0),(7,.ra 4 0),(8,sL a3),(9,sL a4)] [(1,K2a p0),(2,K1y t2),(3,.arr (List.map I (List.replicate (Int.toNat (ctx1.length : Int)) 0))),(4,.box [.nils,.rs 3,.rs 20,I 0,.nils]),(20,rM K07 a2)] ?_))))
   obtain ⟨⟨a5,a6⟩,a7,h⟩ := Qdt h
   refine rg hc none (nN 7 [some (.call (I a5) [.undef,K29 a6,.undef,.undef,.undef,.undef] 1),oN,oN,oN]) [(7,.ra 4 0)] [(4,.box [sI a6.fty,sI a6.fneeds,sM K07 a6.fkids,I a5,sI a6.fpath])] (ab (Kp2 _ _ a7) K8t tv) (sN (K9i hc 5 [] [(163,.bool (a5 != 0))] (ic h (fun a8 h => ?_) fun a8 h => ?_)))
   ·refine rs hc none (nN 5 [nW 60,oN]) [(6,.ra 60 0)] [(60,.box [.nils,.nils,.nils,I a5,.nils])] tv (vb 60 [.nils,.nils,.nils,I a5,.nils] [(6,.ptr [.sl (List.map I []),.sl (List.map I []),.sl (List.map K07 []),I a5,.sl (List.map I [])] 0)] [] ?_)
    obtain rfl := os h
    exact rt (rq [false])
   refine sk (K9f hc 2 [(6,.ra 4 0)] (vb 4 [sI a6.fty,sI a6.fneeds,sM K07 a6.fkids,I a5,sI a6.fpath] [(6,.ptr [sI a6.fty,sI a6.fneeds,sM K07 a6.fkids,I a5,sI a6.fpath] 0)] [] ?_))
   obtain rfl := os h
   exact rt (rq [false])
  refine WpL.mono hL ?_
  rintro _ _ ⟨rfl,hfin⟩
  obtain rfl := os h
  exact ⟨.inl rfl,hfin⟩
 ·rintro impl_typertyp_f impl_typertyp_l0_f impl_typertyp_ih impl_typertyp_l0_ih ⟨p0,ctx1,t2,a9,b1,b2,b3⟩ r h
  intro c hc
  refine WpL.step (K9i hc 1 [] [(25,.bool (decide (b3 < (t2.fKids.length : Int))))] (sN (ic h (fun b4 h => ?_) fun b4 h => ?_)))
  ·refine sk (sN (bk 1 ?_))
   obtain ⟨b5,b6,h⟩ := Qdt h
   refine rsd hc none [oN,eL (K1z b5),oN,nW 40,oN,oN] [25] [(10,I b3),(11,.ra 40 0)] [(1,K2a p0),(2,K1y t2),(3,.arr (List.map I (List.replicate (Int.toNat (ctx1.length : Int)) 0))),(4,.box [.nils,.rs 3,.rs 20,I 0,.nils]),(20,rM K07 a9),(21,rM K14 b1),(22,rM K14 b2),(40,K1y b5)] (ai (Qdx b6 (K0o b5)) tv) (K9i hc 1 [] [(12,.nils)] (sN (sN ?_)))
   obtain ⟨b7,b8,h⟩ := Qdt h
   refine wi [] [(35,.bool b7)] ?_ ?_
   ·replace h := b8
    rcases is h with ⟨b9,h⟩ | ⟨b9,h⟩
    ·obtain rfl := os h
     exact rj hc none [oN,oN,oN,o_,o_,o_,oT] (ar 3 (neF b9) (ai b9 tv))
    obtain rfl := os h
    exact rj hc none (nN 6 [oF]) (ar 4 b9 tv)
   clear b8
   obtain ⟨c0,c1,h⟩ := Qdt h
   refine Wp.into (x := .normal) (mkS [(1,sL ctx1),(3,.ra 1 0),(5,.ra 2 0),(7,.ra 4 0),(8,.rs 21),(9,.rs 22),(10,I b3),(11,.ra 40 0),(12,.rs 41),(22,sM K0h t2.fKids),(23,I (t2.fKids.length : Int)),(24,I b3)] [(1,K2a p0),(2,K1y t2),(3,.arr (List.map I (List.replicate (Int.toNat (ctx1.length : Int)) 0))),(4,.box [.nils,.rs 3,.rs 20,I 0,.nils]),(20,rM K07 a9),(21,rM K14 b1),(22,rM K14 b2),(40,K1y b5),(41,rM K14 c0)]) ?_ ?_
   ·replace h := c1
    refine ic h (fun c2 h => ?_) fun c2 h => ?_
    ·refine K9i hc 1 [35,12] [(13,.nils)] (sN (K9f hc 2 [(1,sL ctx1),(3,.ra 1 0),(5,.ra 2 0),(7,.ra 4 0),(8,.rs 21),(9,.rs 22),(10,I b3),(11,.ra 40 0),(13,.nils),(22,sM K0h t2.fKids),(23,I (t2.fKids.length : Int)),(24,I b3),(37,.bool (decide (b3 > 0)))] ?_))
     obtain ⟨c3,c4,h⟩ := Qdt h
     refine wi [13,37] [(13,sI c3)] ?_ ?_
     ·replace h := c4
      refine ic h (fun c5 h => ?_) fun c5 h => ?_
      ·obtain ⟨c6,c7,h⟩ := Qdt h
       obtain rfl := os h
       exact rj hc none (nN 5 ([eL (.ptr [sI c6.fty,sI c6.fneeds,sM K07 c6.fkids,I c6.ffault,sI c6.fpath] 0)]++nN 4 [])) (ab (Qdy (enc := K07) c7) (Qdx (enc := K07) (x := .ptr [sI c6.fty,sI c6.fneeds,sM K07 c6.fkids,I c6.ffault,sI c6.fpath] 0) c7 (K0a c6)).2 tv)
      obtain rfl := os h
      exact sk (Qdf.view (fun a w hv => SRx.renL [] (SRx.nilSL 13 hv (by kernel_rfl)) (by kernel_rfl) (by kernel_rfl) (by kernel_rfl)))
     clear c4
     obtain ⟨c8,c9,h⟩ := Qdt h
     obtain rfl := os h
     exact rj hc none [oN,oN,oN,some (.call (.osl (List.map K14 c8)) [] 41),oN] (cq (Klz _ _ c9) K7s tv)
    obtain rfl := os h
    exact sk (Qdf.view (fun a w hv => SRx.renL [(41,42)] (SRx.nilTL 12 42 hv (by kernel_rfl) (by kernel_rfl)) (by kernel_rfl) (by kernel_rfl) (by kernel_rfl)))
   clear c1
   refine sN (vz 41 (K18 c0) [(1,sL ctx1),(3,.ra 1 0),(5,.ra 2 0),(7,.ra 4 0),(8,.rs 21),(9,.rs 22),(10,I b3),(11,.ra 40 0),(12,sL c0),(22,sM K0h t2.fKids),(23,I (t2.fKids.length : Int)),(24,I b3)] [(1,K2a p0),(2,K1y t2),(3,.arr (List.map I (List.replicate (Int.toNat (ctx1.length : Int)) 0))),(4,.box [.nils,.rs 3,.rs 20,I 0,.nils]),(20,rM K07 a9),(21,rM K14 b1),(22,rM K14 b2),(40,K1y b5)] ?_)
   obtain ⟨d0,d1,d2,d3,h⟩ := bq2 h
   refine rgd hc (rx [[0],[0],[0],[0,1,2],[0,1,2,3],[0],[6],[7]]) [oN,oN,oN,some (.mk 44 false),some (.call (sL d0) [.tup []] 1),oN,oc (.ptr [sI d2.fty,sI d2.fneeds,sM K07 d2.fkids,I d2.ffault,sI d2.fpath] 0),oN] [11] [(14,.ptr [sI d2.fty,sI d2.fneeds,sM K07 d2.fkids,I d2.ffault,sI d2.fpath] 0)] [(1,K2a p0),(2,K1y t2),(3,.arr (List.map I (List.replicate (Int.toNat (ctx1.length : Int)) 0))),(4,.box [.nils,.rs 3,.rs 20,I 0,.nils]),(20,rM K07 a9),(21,rM K14 b1),(22,rM K14 b2)] (ab (Q75.args (A1 := [.sl (Q02 (List.map K1q [c0,ctx1]))]) (A2 := [.sl (List.map K1q [c0,ctx1])]) (by simp only [List.map_nil,K1u]) (Kmd _ _ d1)) K7w (cq (impl_typertyp_ih _ _ d3) K7y tv)) (sN (K9i hc 5 [] [(62,.bool (d2.ffault != 0))] (ic h (fun d4 h => ?_) fun d4 h => ?_)))
   ·obtain ⟨_,d5,h⟩ := Qdt h
    refine rs hc (rx [[0],[1],[2],[3],[0],[0,4],[0],[0,6],[0,6,7],[0,6,7,8],[0,4,5,6,7,8,9],[11],[12],[13]]) (nN 5 ([mK 45]++nN 4 [some (.eqv (.mk 46 true) ⟨[(73,.rs 46)],[(46,some (rI ([b3] ++ d2.fpath))),(45,none)],[46]⟩),oN,nW 47,oN])) [(6,.ra 47 0)] [(46,rI ([b3] ++ d2.fpath)),(47,.box [.nils,.nils,.nils,I d2.ffault,.rs 46])] (ab (congrArg (fun z => (⟨[(73,.rs 46)],[(46,some (.arr z)),(45,none)],[46]⟩ : Wr)) ((List.map_append).symm : (List.map I [b3]) ++ (List.map I d2.fpath) = List.map I ([b3] ++ d2.fpath))) (Qe7 (enc1 := I) (enc2 := I) (e1 := [b3]) (e2 := d2.fpath) (sz := 1) Qeg Qeg d5) tv) (vz 46 (Qel ([b3] ++ d2.fpath)) [(6,.ra 47 0)] [(47,.box [.nils,.nils,.nils,I d2.ffault,sI ([b3] ++ d2.fpath)])] (vb 47 [.nils,.nils,.nils,I d2.ffault,sI ([b3] ++ d2.fpath)] [(6,.ptr [.sl (List.map I []),.sl (List.map I []),.sl (List.map K07 []),I d2.ffault,sI ([b3] ++ d2.fpath)] 0)] [] ?_))
    obtain rfl := os h
    exact rt (re [false])
   refine sk (sN ?_)
   obtain ⟨d6,d7,h⟩ := Qdt h
   refine K9h hc (rx [[0],[0],[0],[0],[0,3],[0,3,4],[0,3,4,5],[7],[8]]) (nN 7 [oc (I d6),oN]) [62] [(15,I d6)] (cq (Kmh _ _ d7) K80 tv) (K9i hc 2 [] [(85,.bool (d6 != 0))] (ic h (fun d8 h => ?_) fun d8 h => ?_))
   ·refine rs hc none [oN,oN,nW 48,oN] [(6,.ra 48 0)] [(48,.box [.nils,.nils,.nils,I d6,.nils])] tv (vb 48 [.nils,.nils,.nils,I d6,.nils] [(6,.ptr [.sl (List.map I []),.sl (List.map I []),.sl (List.map K07 []),I d6,.sl (List.map I [])] 0)] [] ?_)
    obtain rfl := os h
    exact rt (re [false])
   refine sk (sN (sN ?_))
   obtain ⟨d9,e0,h⟩ := Qdt h
   refine wi [85,15,10] [(115,.bool d9)] ?_ ?_
   ·replace h := e0
    rcases is h with ⟨e3,h⟩ | ⟨e3,h⟩
    ·rcases is h with ⟨e4,h⟩ | ⟨e4,h⟩
     ·obtain ⟨e5,e6,e7,e8,e9,f0,f1,f2,h⟩ := bq4 h
      obtain rfl := os h
      exact rj hc Kp4 (nN 6 ([oT]++nN 10 [eL (.ptr [sI e5.fty,sI e5.fneeds,sM K07 e5.fkids,I e5.ffault,sI e5.fpath] 0),oN,oN,oN,some (.call (.osl (List.map K14 e7)) [] 49),oN,eL (sI e9),oc (.bool f1),oN,oT])) (ar 3 e3 (ar 9 e4 (ac (Qdy (enc := K07) e6) e4 (Qdx (enc := K07) (x := .ptr [sI e5.fty,sI e5.fneeds,sM K07 e5.fkids,I e5.ffault,sI e5.fpath] 0) e6 (K0a e5)).2 (ar 4 e4 (cq (Klw _ _ e8) K7q (ad e4 (Qdy (enc := K14) f0) e4 (xL f0).2 (ai e4 (cq (Kmo _ _ f2) K82 (ar 2 e4 tv)))))))))
     obtain rfl := os h
     exact rj hc Kp4 (nN 6 ([oT,oN]++n_ 18 [oF])) (ar 3 e3 (ar 18 (neT e4) (ai e4 tv)))
    obtain rfl := os h
    exact rj hc Kp4 (nN 4 ([o_,o_,oF,oN]++n_ 18 [oF])) (ar 2 (neT e3) (ai e3 (ar 18 (neT fF) (ai fF tv))))
   clear e0
   refine ic h (fun f3 h => ?_) fun f3 h => ?_
   ·refine rs hc none [oN,nW 50,oN] [(6,.ra 50 0)] [(50,.box [.nils,.nils,.nils,I 3,.nils])] tv (vb 50 [.nils,.nils,.nils,I 3,.nils] [(6,.ptr [.sl (List.map I []),.sl (List.map I []),.sl (List.map K07 []),I 3,.sl (List.map I [])] 0)] [] ?_)
    obtain rfl := os h
    exact rt (re [false])
   refine sk ?_
   obtain ⟨_,f4,h⟩ := Qdt h
   refine rs hc none (nN 6 [some (.eqv (.mk 51 false) ⟨[(124,.rs 51)],[(51,some (.arr (List.map K07 [d2])))],[51]⟩),some (.eqv (.mk 52 true) ⟨[(125,.rs 52)],[(52,some (rM K07 (a9 ++ [d2]))),(20,none),(51,none)],[52]⟩),oN,oN,oN]) [(1,sL ctx1),(3,.ra 1 0),(5,.ra 2 0),(7,.ra 4 0),(8,.rs 21),(9,.rs 22),(12,sL c0),(14,.ptr [sI d2.fty,sI d2.fneeds,sM K07 d2.fkids,I d2.ffault,sI d2.fpath] 0),(22,sM K0h t2.fKids),(23,I (t2.fKids.length : Int)),(24,I b3)] [(1,K2a p0),(2,K1y t2),(3,.arr (List.map I (List.replicate (Int.toNat (ctx1.length : Int)) 0))),(4,.box [.nils,.rs 3,.rs 52,I 0,.nils]),(21,rM K14 b1),(22,rM K14 b2),(52,rM K07 (a9 ++ [d2]))] (ac (congrArg (fun z => (⟨[(124,.rs 51)],[(51,some (.arr z))],[51]⟩ : Wr)) ((Qf0 (K0a d2) Qez) : [AV.ptr [sI d2.fty,sI d2.fneeds,sM K07 d2.fkids,I d2.ffault,sI d2.fpath] 0] = List.map K07 [d2])) (congrArg (fun z => (⟨[(125,.rs 52)],[(52,some (.arr z)),(20,none),(51,none)],[52]⟩ : Wr)) ((List.map_append).symm : (List.map K07 a9) ++ (List.map K07 [d2]) = List.map K07 (a9 ++ [d2]))) (Qe7 (enc1 := K07) (enc2 := K07) (e1 := a9) (e2 := [d2]) (sz := 1) K0d K0d f4) tv) ?_
   obtain ⟨f5,f6,_,f7,f8,f9,_,g0,h⟩ := bq4 h
   exact rgd hc (rx [[0],[0],[0,1],[0,1,2],[0,1,2,3],[0],[0,5],[0,1,2,3,4,5,6],[0,1,2,3,4,5,6,7],[9],[0],[0],[0,11],[0,11,12],[0,11,12,13],[0],[0,15],[0,11,12,13,14,15,16],[0,11,12,13,14,15,16,17],[19],[20],[21]]) (nN 6 ([nQ ⟨[(134,I (c0.length : Int))],[],[]⟩,nQ ⟨[(135,sI f5)],[],[]⟩,some (.mk 53 false),some (.eqv (.mk 54 true) ⟨[(137,.rs 54)],[(54,some (rM K14 (b2 ++ [f5]))),(22,none),(53,none)],[54]⟩)]++nN 6 [nQ ⟨[(144,I (c0.length : Int))],[],[]⟩,nQ ⟨[(145,sI f8)],[],[]⟩,some (.mk 55 false),some (.eqv (.mk 56 true) ⟨[(147,.rs 56)],[(56,some (rM K14 (b1 ++ [f8]))),(21,none),(55,none)],[56]⟩),oN,oN])) [8,9,12,14] [(8,.rs 56),(9,.rs 54)] [(1,K2a p0),(2,K1y t2),(3,.arr (List.map I (List.replicate (Int.toNat (ctx1.length : Int)) 0))),(4,.box [.nils,.rs 3,.rs 52,I 0,.nils]),(52,rM K07 (a9 ++ [d2])),(54,rM K14 (b2 ++ [f5])),(56,rM K14 (b1 ++ [f8]))] (ad (Qdz (d := 134) K14 c0) (Qe2 (d := 135) I f6) (Qe1 (enc := I) (sz := 1) Qec f6) (congrArg (fun z => (⟨[(137,.rs 54)],[(54,some (.arr z)),(22,none),(53,none)],[54]⟩ : Wr)) ((List.map_append).symm : (List.map K14 b2) ++ (List.map K14 [f5]) = List.map K14 (b2 ++ [f5]))) (ad (Qe7 (enc1 := K14) (enc2 := K14) (e1 := b2) (e2 := [f5]) (sz := 1) K17 K17 f7) (Qdz (d := 144) K14 c0) (Qe2 (d := 145) I f9) (Qe1 (enc := I) (sz := 1) Qec f9) (ab (congrArg (fun z => (⟨[(147,.rs 56)],[(56,some (.arr z)),(21,none),(55,none)],[56]⟩ : Wr)) ((List.map_append).symm : (List.map K14 b1) ++ (List.map K14 [f8]) = List.map K14 (b1 ++ [f8]))) (Qe7 (enc1 := K14) (enc2 := K14) (e1 := b1) (e2 := [f8]) (sz := 1) K17 K17 g0) tv))) (K9b hc 2 [(1,sL ctx1),(3,.ra 1 0),(5,.ra 2 0),(7,.ra 4 0),(8,.rs 56),(9,.rs 54),(22,sM K0h t2.fKids),(23,I (t2.fKids.length : Int)),(24,I (wr (b3 + 1)))] (Qdb (WpL.view (fun a w hv => SRx.renL [(20,52),(21,56),(22,54)] hv (by kernel_rfl) (by kernel_rfl) (by kernel_rfl)) (impl_typertyp_l0_ih _ _ h c hc))))
  obtain rfl := os h
  exact xt 0 (Qd5 (Qdc (iv [])))
theorem Kpa : ∀ p r,Kp5 p = some r → Kp7 p r := Kp9.1
theorem Kpb : ∀ p r,Kp6 p = some r → Kp8 p r := Kp9.2
def Kpc (p : K00 × LL × K01) : Option (Option K04) :=
 match p with
 | (s0,ctx1,t2) =>
  ((
  (Kk7 s0) >>= fun a0 =>
  if a0 = true then
  (Kl3 (s0,ctx1)) >>= fun a1 =>
  if a1 = true then
  (Kln (s0,t2,(ctx1.length : Int))) >>= fun a2 =>
  some ((!a2))
  else
  some (true)
  else
  some (true)
  ) : Option (Bool)) >>= fun a3 =>
  if a3 = true then
  some none
  else
  (Kp5 ((K06.mk s0),ctx1,t2)) >>= fun a4 =>
  some (some a4)
def Kpd (p : K00 × LL × K01) (r : Option K04) : Prop :=
 match p with
 | (s0,ctx1,t2) => Q75 Tryz.prog 87 [K1w s0,sL ctx1,K1z t2] (K0b r) []
theorem Kpe : ∀ p r,Kpc p = some r → Kpd p r := by
 rintro ⟨s0,ctx1,t2⟩ r h
 unfold Kpc at h
 refine b0 Tryz.f87 B87 29 [(0,K1w s0),(1,sL ctx1),(2,K1z t2)] fun c hc => (rsd hc none [nW 1,nW 2,oN] [0,2] [(3,.ra 1 0),(5,.ra 2 0)] [(1,K1v s0),(2,K1y t2)] tv (sN (sN ?_)))
 obtain ⟨a0,a1,h⟩ := Qdt h
 refine wi [] [(23,.bool a0)] ?_ ?_
 ·replace h := a1
  obtain ⟨a2,a3,h⟩ := Qdt h
  rcases is h with ⟨a4,h⟩ | ⟨a4,h⟩
  ·obtain ⟨a5,a6,h⟩ := Qdt h
   rcases is h with ⟨a7,h⟩ | ⟨a7,h⟩
   ·obtain ⟨a8,a9,h⟩ := Qdt h
    obtain rfl := os h
    exact rj hc none ([oN,oc (.bool a2)]++nN 4 ([oc (.bool a5),oN,oF]++nN 4 [nQ ⟨[(20,I (ctx1.length : Int))],[],[]⟩,oc (.bool a8),oN,oF])) (cq (Kk9 _ _ a3) K6z (ar 3 (nF a4) (cq (Kl5 _ _ a6) K7e (ar 2 (nF a4) (ar 4 (nF a7) (ab (Qdz (d := 20) K14 ctx1) (nF a7) (cq (Klp _ _ a9) K7o (ar 2 (nF a7) tv))))))))
   obtain rfl := os h
   exact rj hc none ([oN,oc (.bool a2)]++nN 4 ([oc (.bool a5),oN,oF,oN]++n_ 6 [oT])) (cq (Kk9 _ _ a3) K6z (ar 3 (nF a4) (cq (Kl5 _ _ a6) K7e (ar 2 (nF a4) (ar 6 (neF (nT a7)) (ai (nT a7) tv))))))
  obtain rfl := os h
  exact rj hc none ([oN,oc (.bool a2),oN,oN]++n_ 4 ([oT,oN]++n_ 6 [oT])) (cq (Kk9 _ _ a3) K6z (ar 4 (neF (nT a4)) (ai (nT a4) (ar 6 nf (ai tt tv)))))
 clear a1
 refine ic h (fun b1 h => ?_) fun b1 h => ?_
 ·obtain rfl := os h
  exact rs0 hc 1 [(6,.nilp)] [] (rt (rq [false]))
 refine sk ?_
 obtain ⟨b2,b3,h⟩ := Qdt h
 obtain rfl := os h
 exact rs hc none (nN 4 [oc (.ptr [sI b2.fty,sI b2.fneeds,sM K07 b2.fkids,I b2.ffault,sI b2.fpath] 0),oN]) [(6,.ptr [sI b2.fty,sI b2.fneeds,sM K07 b2.fkids,I b2.ffault,sI b2.fpath] 0)] [] (cq (Kpa _ _ b3) K7y tv) (rt (rq [false]))
def Kpf (p : K00 × LL × K01) : Option (Int × (List Int)) :=
 match p with
 | (s0,ctx1,t2) =>
  (Kpc (s0,ctx1,t2)) >>= fun a0 =>
  match a0 with
  | none =>
   some (1,[])
  | some a1 =>
   some (a1.ffault,a1.fpath)
def Kpg (p : K00 × LL × K01) (r : Int × (List Int)) : Prop :=
 match p with
 | (s0,ctx1,t2) => Q75 Tryz.prog 58 [K1w s0,sL ctx1,K1z t2] (.tup [I r.1,sI r.2]) []
theorem Kph : ∀ p r,Kpf p = some r → Kpg p r := by
 rintro ⟨s0,ctx1,t2⟩ r h
 unfold Kpf at h
 refine b0 Tryz.f58 B58 23 [(0,K1w s0),(1,sL ctx1),(2,K1z t2)] fun c hc => (rsd hc none [nW 1,nW 2,oN,oN] [0,2] [(3,.ra 1 0),(5,.ra 2 0)] [(1,K1v s0),(2,K1y t2)] tv (sN ?_))
 obtain ⟨a0,a1,h⟩ := Qdt h
 rcases a0 with _ | a2
 ·refine rg hc none [oN,oN,oN,oc (.nilp),oN] [(8,.nilp)] [] (cq (Kpe _ _ a1) K8u tv) (sN (K9g hc 2 [] [(14,.bool true)] [] (cT true tt ?_)))
  obtain rfl := os h
  exact rs0 hc 2 [(6,I 1),(7,.nils)] [] (rt (rq [true,false]))
 refine rg hc none [oN,oN,oN,oc (.ptr [sI a2.fty,sI a2.fneeds,sM K07 a2.fkids,I a2.ffault,sI a2.fpath] 0),oN] [(8,.ptr [sI a2.fty,sI a2.fneeds,sM K07 a2.fkids,I a2.ffault,sI a2.fpath] 0)] [] (cq (Kpe _ _ a1) K8u tv) (sN (K9g hc 2 [] [(14,.bool false)] [] (cF false fF ?_)))
 obtain rfl := os h
 exact sk (rs hc (rx [[0],[1],[2],[3],[0],[0,4],[0,4,5],[0,4,5,6],[4],[9]]) (nN 10 []) [(6,I a2.ffault),(7,sI a2.fpath)] [] tv (rt (rq [true,false])))
def Kpi (p : K00 × LL × K01) : Option ((List Int) × (List Int) × Bool) :=
 match p with
 | (s0,ctx1,t2) =>
  (Kpc (s0,ctx1,t2)) >>= fun a0 =>
  match a0 with
  | none =>
   some ([],[],false)
  | some a1 =>
   if (a1.ffault != 0) = true then
   some ([],[],false)
   else
   (Kmp a1.fty) >>= fun a2 =>
   (Kmp a1.fneeds) >>= fun a3 =>
   some (a2,a3,true)
def Kpj (p : K00 × LL × K01) (r : (List Int) × (List Int) × Bool) : Prop :=
 match p with
 | (s0,ctx1,t2) => Q75 Tryz.prog 23 [K1w s0,sL ctx1,K1z t2] (.tup [oI r.1,.osl (List.map I r.2.1),.bool r.2.2]) []
theorem Kpk : ∀ p r,Kpi p = some r → Kpj p r := by
 rintro ⟨s0,ctx1,t2⟩ r h
 unfold Kpi at h
 refine b0 Tryz.f23 B23 33 [(0,K1w s0),(1,sL ctx1),(2,K1z t2)] fun c hc => (rsd hc none [nW 1,nW 2,oN,oN,oN] [0,2] [(3,.ra 1 0),(5,.ra 2 0)] [(1,K1v s0),(2,K1y t2)] tv (sN ?_))
 obtain ⟨a0,a1,h⟩ := Qdt h
 rcases a0 with _ | a2
 ·refine rg hc none [oN,oN,oN,oc (.nilp),oN] [(9,.nilp)] [] (cq (Kpe _ _ a1) K8u tv) (sN (rsd hc none ([oN,oN,oN]++n_ 5 [oT]) [] [(22,.bool true)] [] (ar 5 nf (ai tt tv)) (cT true tt ?_)))
  obtain rfl := os h
  exact rs0 hc 3 [(6,.nils),(7,.nils),(8,.bool false)] [] (rt (rq [true,true,true]))
 refine rg hc none [oN,oN,oN,oc (.ptr [sI a2.fty,sI a2.fneeds,sM K07 a2.fkids,I a2.ffault,sI a2.fpath] 0),oN] [(9,.ptr [sI a2.fty,sI a2.fneeds,sM K07 a2.fkids,I a2.ffault,sI a2.fpath] 0)] [] (cq (Kpe _ _ a1) K8u tv) (sN (rsd hc none (nN 8 [oF]) [] [(22,.bool (a2.ffault != 0))] [] (ar 6 fF tv) (ic h (fun a3 h => ?_) fun a3 h => ?_)))
 ·obtain rfl := os h
  exact rs0 hc 3 [(6,.nils),(7,.nils),(8,.bool false)] [] (rt (rq [true,true,true]))
 refine sk ?_
 obtain ⟨a4,a5,a6,a7,h⟩ := bq2 h
 obtain rfl := os h
 exact rs hc (rx [[0],[1],[2],[3],[4],[0],[0,5],[0,5,6],[0,5,6,7],[9],[10],[11],[12]]) (nN 4 ([some (.call (oI a4) [] 3)]++nN 4 [some (.call (oI a6) [] 4),oN,oN,oN])) [(6,.rs 3),(7,.rs 4),(8,.bool true)] [(3,rI a4),(4,rI a6)] (cq (Kmr _ _ a5) K83 (cq (Kmr _ _ a7) K83 tv)) (rt (rq [true,true,true]))
def Kpl (g0 : Int) : Option (Bool) :=
 (Kis (g0,(-1),15)) >>= fun a0 =>
 some a0
def Kpm (g0 : Int) (r : Bool) : Prop :=
 Q75 Tryz.prog 189 [I g0] (.bool r) []
theorem Kpn : ∀ p r,Kpl p = some r → Kpm p r := by
 rintro g0 r h
 unfold Kpl at h
 refine b0 Tryz.f189 K8x 5 [(0,I g0)] fun c hc => (K9g hc 1 [] [] [] ?_)
 obtain ⟨a0,a1,h⟩ := Qdt h
 obtain rfl := os h
 exact rs hc none [oN,oc (.bool a0),oN] [(2,.bool a0)] [] (cq (Kiu _ _ a1) K6n tv) (rt (rq [true]))
def Kpo (c : Ctx) : (Int) ⊕ (Int) → Exit → Q0a → Prop
 | .inl a0 => Qdf c (.exit 1) (mkS [(4,I a0)] [])
 | .inr r => Qdo TIx Tryz.f134 [] (I r)
mutual
def Kpp (p : K01 × Int × Int) : Option (Int) :=
 match p with
 | (t0,n1,nodes4) =>
  (Kl6 t0.fOp) >>= fun (a0,a1) =>
  ((
  if a1 = true then
  if (decide ((wr (nodes4 + 1)) > 400)) = true then
   some (true)
  else
   some (((t0.fKids.length : Int) != a0.fkids))
  else
  some (true)
  ) : Option (Bool)) >>= fun a2 =>
  if a2 = true then
  some 401
  else
  ((
  if (t0.fOp == 0) = true then
   (Kis (t0.fN,0,(wr (n1 - 1)))) >>= fun a3 =>
   some (a3)
  else
   ((
   if (t0.fOp == 1) = true then
   (Kis (t0.fN,0,2)) >>= fun a4 =>
   some (a4)
   else
   ((
   if a0.fgrade = true then
   (Kpl t0.fN) >>= fun a5 =>
   some (a5)
   else
   some ((t0.fN == 0))
   ) : Option (Bool)) >>= fun a6 =>
   some (a6)
   ) : Option (Bool)) >>= fun a7 =>
   some (a7)
  ) : Option (Bool)) >>= fun a8 =>
  ((
  if a0.ftyped = true then
   ((
   if a8 = true then
   (Kkg t0.fType) >>= fun a9 =>
   some (a9)
   else
   some (false)
   ) : Option (Bool)) >>= fun b1 =>
   some (b1)
  else
   ((
   if a8 = true then
   some (((t0.fType.length : Int) == 0))
   else
   some (false)
   ) : Option (Bool)) >>= fun b2 =>
   some (b2)
  ) : Option (Bool)) >>= fun b3 =>
  if b3 = true then
  (Kpq (t0,n1,(wr (nodes4 + 1)),0)) >>= fun fl => match fl with
  | .inl b4 =>
   some b4
  | .inr r =>
   some r
  else
  some 401
 partial_fixpoint
def Kpq (p : K01 × Int × Int × Int) : Option ((Int) ⊕ (Int)) :=
 match p with
 | (t0,n1,a0,a1) =>
  if (decide (a1 < (t0.fKids.length : Int))) = true then
  (idx t0.fKids a1) >>= fun a2 =>
  (Klc (t0.fOp,a1)) >>= fun a3 =>
  (Kpp (a2,(wr (n1 + a3)),a0)) >>= fun a4 =>
  if (decide (a4 > 400)) = true then
  some (.inr 401)
  else
  Kpq (t0,n1,a4,(wr (a1 + 1)))
  else
  some (.inl a0)
 partial_fixpoint
end
def Kpr (p : K01 × Int × Int) (r : Int) : Prop :=
 match p with
 | (t0,n1,nodes4) => Q75 Tryz.prog 134 [K1z t0,I n1,.fn 189 [],.fn 159 [],I nodes4] (I r) []
def Kps (p : K01 × Int × Int × Int) (fl : (Int) ⊕ (Int)) : Prop :=
 match p with
 | (t0,n1,a0,a1) => ∀ c : Ctx,c.nt = 104 → WpL Tryz.prog c (cl (cl (cr (cl (cr (cr (cr (cr (cr (cr (cr K7l))))))))))) (Kpo c fl) (mkS [(1,I n1),(2,.fn 189 []),(3,.fn 159 []),(4,I a0),(5,.ra 1 0),(82,sM K0h t0.fKids),(83,I (t0.fKids.length : Int)),(84,I a1)] [(1,K1y t0)])
theorem Kpt : (∀ p r,Kpp p = some r → Kpr p r) ∧ (∀ p r,Kpq p = some r → Kps p r) := by
 refine Kpp.mutual_partial_correctness Kpr Kps ?_ ?_
 ·rintro impl_check_Kimpl_writtenSize_c1_Kimpl_isWrittenType_l0_f impl_check_Kimpl_writtenSize_c1_Kimpl_isWrittenType_l0_ih ⟨t0,n1,nodes4⟩ r h
  refine b0 Tryz.f134 K7l 104 [(0,K1z t0),(1,I n1),(2,.fn 189 []),(3,.fn 159 []),(4,I nodes4)] fun c hc => (rsd hc none [nW 1,oN] [0] [(5,.ra 1 0)] [(1,K1y t0)] tv (K9i hc 3 [4] [(4,I (wr (nodes4 + 1)))] ?_))
  obtain ⟨⟨a0,a1⟩,a2,h⟩ := Qdt h
  refine rsd hc none [oN,oN,oc (.tup [.agg [.str a0.fword,I a0.fkids,.bool a0.fgrade,.bool a0.ftyped],.bool a1]),oN,oN,oN,nW 2,oN,oN] [] [(11,.ra 2 0),(12,.bool a1)] [(1,K1y t0),(2,.box [.str a0.fword,I a0.fkids,.bool a0.fgrade,.bool a0.ftyped])] (cq (Kl8 _ _ a2) K7g tv) (sN (sN ?_))
  obtain ⟨a3,a4,h⟩ := Qdt h
  refine wi [12] [(36,.bool a3)] ?_ ?_
  ·replace h := a4
   rcases is h with ⟨a5,h⟩ | ⟨a5,h⟩
   ·rcases is h with ⟨a6,h⟩ | ⟨a6,h⟩
    ·obtain rfl := os h
     exact rj hc none (nN 5 ([oF,oN]++n_ 6 [oT])) (ar 3 (nF a5) (ar 6 (neF a6) (ai a6 tv)))
    obtain rfl := os h
    exact rj hc none (nN 5 [oF,oN,oN,oN,nQ ⟨[(32,I (t0.fKids.length : Int))],[],[]⟩,oN,oN,oN,oF]) (ar 3 (nF a5) (ar 3 a6 (ai (Qdz (d := 32) K0h t0.fKids) (ar 4 a6 tv))))
   obtain rfl := os h
   exact rj hc none ([oN,oN,oN,o_,o_,oT,oN]++n_ 6 [oT]) (ar 2 (neF (nT a5)) (ai (nT a5) (ar 6 nf (ai tt tv))))
  clear a4
  refine ic h (fun a7 h => ?_) fun a7 h => ?_
  ·obtain rfl := os h
   exact rs0 hc 1 [(10,I 401)] [] (rt (rq [true]))
  refine sk (sN (bk 0 (K9i hc 4 [36] [(40,.bool (t0.fOp == 0))] ?_)))
  obtain ⟨a8,a9,h⟩ := Qdt h
  refine Wp.into (x := .normal) (mkS [(1,I n1),(2,.fn 189 []),(3,.fn 159 []),(4,I (wr (nodes4 + 1))),(5,.ra 1 0),(11,.ra 2 0),(12,.bool a8)] [(1,K1y t0),(2,.box [.str a0.fword,I a0.fkids,.bool a0.fgrade,.bool a0.ftyped])]) ?_ ?_
  ·replace h := a9
   refine ic h (fun b1 h => ?_) fun b1 h => ?_
   ·obtain ⟨b2,b3,h⟩ := Qdt h
    obtain rfl := os h
    exact rj hc none (nN 4 [oc (.bool b2),oN]) (cq (Kiu _ _ b3) K6n tv)
   refine K9f hc 4 [(1,I n1),(2,.fn 189 []),(3,.fn 159 []),(4,I (wr (nodes4 + 1))),(5,.ra 1 0),(11,.ra 2 0),(49,.bool (t0.fOp == 1))] ?_
   obtain ⟨b4,b5,h⟩ := Qdt h
   refine wi [49] [(12,.bool b4)] ?_ ?_
   ·replace h := b5
    refine ic h (fun b6 h => ?_) fun b6 h => ?_
    ·obtain ⟨b7,b8,h⟩ := Qdt h
     obtain rfl := os h
     exact rj hc none [oN,oN,oc (.bool b7),oN] (cq (Kiu _ _ b8) K6n tv)
    refine K9i hc 3 [49] [(56,.bool a0.fgrade)] ?_
    obtain ⟨b9,c0,h⟩ := Qdt h
    refine wi [56] [(12,.bool b9)] ?_ ?_
    ·replace h := c0
     refine ic h (fun c1 h => ?_) fun c1 h => ?_
     ·obtain ⟨c2,c3,h⟩ := Qdt h
      obtain rfl := os h
      exact rj hc none [oN,oN,oN,oc (.bool c2),oN] (cq (Kpn _ _ c3) K8y tv)
     obtain rfl := os h
     exact rj0 hc 4
    clear c0
    obtain rfl := os h
    exact im
   clear b5
   obtain rfl := os h
   exact im
  clear a9
  refine sN (K9g hc 2 [11] [(64,.bool a0.ftyped)] [(1,K1y t0)] ?_)
  obtain ⟨c4,c5,h⟩ := Qdt h
  refine wi [64,12] [(12,.bool c4)] ?_ ?_
  ·replace h := c5
   refine ic h (fun c6 h => ?_) fun c6 h => ?_
   ·obtain ⟨c7,c8,h⟩ := Qdt h
    refine wi [64,12] [(12,.bool c7)] ?_ ?_
    ·replace h := c8
     rcases is h with ⟨c9,h⟩ | ⟨c9,h⟩
     ·obtain ⟨d0,d1,h⟩ := Qdt h
      obtain rfl := os h
      exact rj hc none (nN 5 [oc (.bool d0),oT,oN]) (ar 4 c9 (cq (Kki _ _ d1) K75 (ai c9 tv)))
     obtain rfl := os h
     exact rj hc none ([oN,oN]++n_ 4 [oF,oN]) (ar 4 (neT c9) (ai c9 tv))
    clear c8
    obtain rfl := os h
    exact im
   obtain ⟨d2,d3,h⟩ := Qdt h
   refine wi [64,12] [(12,.bool d2)] ?_ ?_
   ·replace h := d3
    rcases is h with ⟨d4,h⟩ | ⟨d4,h⟩
    ·obtain rfl := os h
     exact rj hc none (nN 4 [nQ ⟨[(76,I (t0.fType.length : Int))],[],[]⟩,oN,oT,oN]) (ar 3 d4 (ai (Qdz (d := 76) I t0.fType) (ar 2 d4 tv)))
    obtain rfl := os h
    exact rj hc none ([oN,oN]++n_ 4 [oF,oN]) (ar 4 (neT d4) (ai d4 tv))
   clear d3
   obtain rfl := os h
   exact im
  clear c5
  refine sN (K9i hc 2 [12] [(80,.bool (!c4))] ?_)
  rcases is h with ⟨d5,h⟩ | ⟨d5,h⟩
  ·refine cF (!c4) (nF d5) (sk (sN (rss hc none [oN,oN,nQ ⟨[(83,I (t0.fKids.length : Int))],[],[]⟩,oN] [(1,I n1),(2,.fn 189 []),(3,.fn 159 []),(4,I (wr (nodes4 + 1))),(5,.ra 1 0),(82,sM K0h t0.fKids),(83,I (t0.fKids.length : Int)),(84,I 0)] (ai (Qdz (d := 83) K0h t0.fKids) tv) (bk 1 ?_))))
   obtain ⟨fl,d6,h⟩ := Qdt h
   have hL := impl_check_Kimpl_writtenSize_c1_Kimpl_isWrittenType_l0_ih _ _ d6 c hc
   refine lp ?_
   rcases fl with d7 | r
   ·refine wl hL ?_
    obtain rfl := os h
    exact Qd7 (rs0 hc 2 [(10,I d7)] [] (rt (rq [true])))
   refine WpL.mono hL ?_
   rintro _ _ ⟨rfl,hfin⟩
   obtain rfl := os h
   exact ⟨.inl rfl,hfin⟩
  refine cT (!c4) (nT d5) ?_
  obtain rfl := os h
  exact rs0 hc 1 [(10,I 401)] [] (rt (rq [true]))
 ·rintro impl_check_Kimpl_writtenSize_c1_Kimpl_isWrittenType_f impl_check_Kimpl_writtenSize_c1_Kimpl_isWrittenType_l0_f impl_check_Kimpl_writtenSize_c1_Kimpl_isWrittenType_ih impl_check_Kimpl_writtenSize_c1_Kimpl_isWrittenType_l0_ih ⟨t0,n1,d8,d9⟩ r h
  intro c hc
  refine WpL.step (K9i hc 1 [] [(85,.bool (decide (d9 < (t0.fKids.length : Int))))] (sN (ic h (fun e0 h => ?_) fun e0 h => ?_)))
  ·refine sk (sN (bk 2 ?_))
   obtain ⟨e1,e2,h⟩ := Qdt h
   refine rsd hc none [oN,eL (K1z e1),oN,nW 4,oN,oN] [85] [(13,I d9),(14,.ra 4 0)] [(1,K1y t0),(4,K1y e1)] (ai (Qdx e2 (K0o e1)) tv) ?_
   obtain ⟨e3,e4,e5,e6,h⟩ := bq2 h
   refine rsd hc (rx [[0],[0],[0],[0,2],[0],[0,2,3,4],[0,1,2,3,4,5],[0],[0],[0],[10],[11]]) (nN 5 ([oc (I e3)]++nN 4 [oc (I e5),oN])) [13,14,4] [(4,I e5)] [(1,K1y t0)] (cq (Kle _ _ e4) K7k (cq (impl_check_Kimpl_writtenSize_c1_Kimpl_isWrittenType_ih _ _ e6) K7m tv)) (K9i hc 2 [] [(101,.bool (decide (e5 > 400)))] (ic h (fun e7 h => ?_) fun e7 h => ?_))
   ·obtain rfl := os h
    exact rs0 hc 1 [(10,I 401)] [] (rt (re [true]))
   exact sk (ri0 hc 2 (Qdb (impl_check_Kimpl_writtenSize_c1_Kimpl_isWrittenType_l0_ih _ _ h c hc)))
  obtain rfl := os h
  exact xt 1 (Qd5 (Qdc (iv [])))
theorem Kpu : ∀ p r,Kpp p = some r → Kpr p r := Kpt.1
theorem Kpv : ∀ p r,Kpq p = some r → Kps p r := Kpt.2
def Kpw (t0 : K01) : Option (Int) :=
 (Kpp (t0,8,0)) >>= fun a0 =>
 some a0
def Kpx (t0 : K01) (r : Int) : Prop :=
 Q75 Tryz.prog 112 [K1z t0] (I r) []
theorem Kpy : ∀ p r,Kpw p = some r → Kpx p r := by
 rintro t0 r h
 unfold Kpw at h
 refine b0 Tryz.f112 K8z 5 [(0,K1z t0)] fun c hc => (rs hc none [nW 1,oN] [(1,.ra 1 0)] [(1,K1y t0)] tv ?_)
 obtain ⟨a0,a1,h⟩ := Qdt h
 obtain rfl := os h
 exact rs hc none [oN,oc (I a0),oN] [(2,I a0)] [] (cq (Kpu _ _ a1) K7m tv) (rt (rq [true]))
def Kpz (t0 : K01) : Option (Bool) :=
 (Kpw t0) >>= fun a0 =>
 some (decide (a0 ≤ 400))
def Kq0 (t0 : K01) (r : Bool) : Prop :=
 Q75 Tryz.prog 40 [K1z t0] (.bool r) []
theorem Kq1 : ∀ p r,Kpz p = some r → Kq0 p r := by
 rintro t0 r h
 unfold Kpz at h
 refine b0 Tryz.f40 B40 6 [(0,K1z t0)] fun c hc => (rs hc none [nW 1,oN] [(1,.ra 1 0)] [(1,K1y t0)] tv ?_)
 obtain ⟨a0,a1,h⟩ := Qdt h
 obtain rfl := os h
 exact rs hc none [oN,oc (I a0),oN,oN] [(2,.bool (decide (a0 ≤ 400)))] [] (cq (Kpy _ _ a1) K90 tv) (rt (rq [true]))
def Kq2 (c : Ctx) : (Int × Int × (List Int) × (List K01)) ⊕ ((K01 × Bool)) → Exit → Q0a → Prop
 | .inl (a0,a1,a2,a3) => Qdf c (.exit 0) (mkS [(2,.ra 1 0),(4,.ra 2 0)] [(1,.box [I a0,I a1,sI a2,sM K0h a3]),(2,zT)])
 | .inr r => Qdo TIx Tryz.f127 [] (.tup [K1z r.1,.bool r.2])
def Kq3 (p : (List Int) × Int × Int × (List Int) × (List K01) × Int) : Option ((Int × Int × (List Int) × (List K01)) ⊕ ((K01 × Bool))) :=
 match p with
 | (path1,a0,a1,a2,a3,a4) =>
  if (decide (a4 < (path1.length : Int))) = true then
  (idx path1 a4) >>= fun a5 =>
  (Kis (a5,0,(wr ((a3.length : Int) - 1)))) >>= fun a6 =>
  if a6 = true then
  (idx a3 a5) >>= fun a7 =>
  Kq3 (path1,a7.fOp,a7.fN,a7.fType,a7.fKids,(wr (a4 + 1)))
  else
  some (.inr ((K01.mk 0 0 [] []),false))
  else
  some (.inl (a0,a1,a2,a3))
 partial_fixpoint
def Kq4 (p : (List Int) × Int × Int × (List Int) × (List K01) × Int) (fl : (Int × Int × (List Int) × (List K01)) ⊕ ((K01 × Bool))) : Prop :=
 match p with
 | (path1,a0,a1,a2,a3,a4) => ∀ c : Ctx,c.nt = 29 → WpL Tryz.prog c (cl (cl (cr (cl (cr K92))))) (Kq2 c fl) (mkS [(2,.ra 1 0),(4,.ra 2 0),(8,sI path1),(9,I (path1.length : Int)),(10,I a4)] [(1,.box [I a0,I a1,sI a2,sM K0h a3]),(2,zT)])
theorem Kq5 : ∀ p r,Kq3 p = some r → Kq4 p r := by
 refine Kq3.partial_correctness Kq4 ?_
 rintro impl_at_l0_f impl_at_l0_ih ⟨path1,a0,a1,a2,a3,a4⟩ r h
 intro c hc
 refine WpL.step (K9i hc 1 [] [(11,.bool (decide (a4 < (path1.length : Int))))] (sN (ic h (fun a5 h => ?_) fun a5 h => ?_)))
 ·refine sk (sN (bk 1 ?_))
  obtain ⟨a6,a7,h⟩ := Qdt h
  refine K9h hc none [eL (I a6),oN,oN] [11] [(7,I a6)] (ai (ix a7) tv) (sN ?_)
  obtain ⟨a8,a9,h⟩ := Qdt h
  refine K9h hc none [oN,oN,oN,nQ ⟨[(17,I (a3.length : Int))],[],[]⟩,oN,oc (.bool a8),oN] [] [(20,.bool (!a8))] (ai (Qdz (d := 17) K0h a3) (cq (Kiu _ _ a9) K6n tv)) ?_
  rcases is h with ⟨b1,h⟩ | ⟨b1,h⟩
  ·refine cF (!a8) (nF b1) (sk ?_)
   obtain ⟨b2,b3,h⟩ := Qdt h
   exact rgd hc none [oN,oN,oN,eL (K1z b2),oN,oN] [20,7] [] [(1,K1y b2),(2,zT)] (ai (Qdx b3 (K0o b2)) tv) (ri0 hc 2 (Qdb (impl_at_l0_ih _ _ h c hc)))
  refine cT (!a8) (nT b1) ?_
  obtain rfl := os h
  exact rs0 hc 3 [(4,.ra 2 0),(5,.bool false)] [(2,zT)] (rt (re [false,true]))
 obtain rfl := os h
 exact xt 0 (Qd5 (Qdc (iv [])))
def Kq6 (p : K01 × (List Int)) : Option (K01 × Bool) :=
 match p with
 | (t0,path1) =>
  (Kq3 (path1,t0.fOp,t0.fN,t0.fType,t0.fKids,0)) >>= fun fl => match fl with
  | .inl (a0,a1,a2,a3) =>
   some ((K01.mk a0 a1 a2 a3),true)
  | .inr r =>
   some r
def Kq7 (p : K01 × (List Int)) (r : K01 × Bool) : Prop :=
 match p with
 | (t0,path1) => Q75 Tryz.prog 127 [K1z t0,sI path1] (.tup [K1z r.1,.bool r.2]) []
theorem Kq8 : ∀ p r,Kq6 p = some r → Kq7 p r := by
 rintro ⟨t0,path1⟩ r h
 unfold Kq6 at h
 refine b0 Tryz.f127 K92 29 [(0,K1z t0),(1,sI path1)] fun c hc => (rsd hc none [nW 1,nW 2,oN] [0] [(2,.ra 1 0),(4,.ra 2 0)] [(1,K1y t0),(2,zT)] tv (sN (rss hc none [oN,nQ ⟨[(9,I (path1.length : Int))],[],[]⟩,oN] [(2,.ra 1 0),(4,.ra 2 0),(8,sI path1),(9,I (path1.length : Int)),(10,I 0)] (ai (Qdz (d := 9) I path1) tv) (bk 0 ?_))))
 obtain ⟨fl,a0,h⟩ := Qdt h
 have hL := Kq5 _ _ a0 c hc
 refine lp ?_
 rcases fl with ⟨a1,a2,a3,a4⟩ | r
 ·refine wl hL ?_
  obtain rfl := os h
  exact Qd7 (K9g hc 3 [2] [(5,.bool true)] [(2,.box [I a1,I a2,sI a3,sM K0h a4])] (rt (rq [false,true])))
 refine WpL.mono hL ?_
 rintro _ _ ⟨rfl,hfin⟩
 obtain rfl := os h
 exact ⟨.inl rfl,hfin⟩
def Kq9 (c : Ctx) (t0 : K01) (a0 : List Int) : (List K01) → Exit → Q0a → Prop
 | a1 => Qdf c (.exit 0) (mkS [(2,.ra 2 0),(3,.ra 4 0)] [(2,zT),(3,rI a0),(4,.box [I t0.fOp,I t0.fN,.rs 3,.rs 10]),(10,rM K0k a1)])
mutual
def Kqa (t0 : K01) : Option (K01) :=
 (Kmp t0.fType) >>= fun a0 =>
 (Kqb (t0,a0,[],0)) >>= fun a1 =>
 some (K01.mk t0.fOp t0.fN a0 a1)
 partial_fixpoint
def Kqb (p : K01 × (List Int) × (List K01) × Int) : Option ((List K01)) :=
 match p with
 | (t0,a0,a1,a2) =>
  if (decide (a2 < (t0.fKids.length : Int))) = true then
  (idx t0.fKids a2) >>= fun a3 =>
  (Kqa a3) >>= fun a4 =>
  (Qe6 (a1.length + [a4].length) 64) >>= fun _ =>
  Kqb (t0,a0,(a1 ++ [a4]),(wr (a2 + 1)))
  else
  some (a1)
 partial_fixpoint
end
def Kqc (t0 : K01) (r : K01) : Prop :=
 Q75 Tryz.prog 131 [K1z t0] (K2f r) []
def Kqd (p : K01 × (List Int) × (List K01) × Int) (fl : (List K01)) : Prop :=
 match p with
 | (t0,a0,a1,a2) => ∀ c : Ctx,c.nt = 30 → WpL Tryz.prog c (cl (cl (cr (cl (cr (cr K94)))))) (Kq9 c t0 a0 fl) (mkS [(2,.ra 2 0),(3,.ra 4 0),(15,sM K0h t0.fKids),(16,I (t0.fKids.length : Int)),(17,I a2)] [(2,zT),(3,rI a0),(4,.box [I t0.fOp,I t0.fN,.rs 3,.rs 10]),(10,rM K0k a1)])
theorem Kqe : (∀ p r,Kqa p = some r → Kqc p r) ∧ (∀ p r,Kqb p = some r → Kqd p r) := by
 refine Kqa.mutual_partial_correctness Kqc Kqd ?_ ?_
 ·rintro impl_copyTerm_l0_f impl_copyTerm_l0_ih t0 r h
  refine b0 Tryz.f131 K94 30 [(0,K1z t0)] fun c hc => (rs hc none [nW 1,nW 2] [(1,.ra 1 0),(2,.ra 2 0)] [(1,K1y t0),(2,zT)] tv ?_)
  obtain ⟨a0,a1,h⟩ := Qdt h
  refine rsd hc (rx [[0],[1],[0],[0,2],[0],[0,4],[0,4,5],[7],[0],[9]]) (nN 6 [some (.call (oI a0) [] 3),oN,nW 4,oN]) [] [(3,.ra 4 0)] [(1,K1y t0),(2,zT),(3,rI a0),(4,.box [I t0.fOp,I t0.fN,.rs 3,.nils])] (cq (Kmr _ _ a1) K83 tv) (sN (rs hc none [oN,oN,nQ ⟨[(16,I (t0.fKids.length : Int))],[],[]⟩,oN] [(2,.ra 2 0),(3,.ra 4 0),(15,sM K0h t0.fKids),(16,I (t0.fKids.length : Int)),(17,I 0)] [(2,zT),(3,rI a0),(4,.box [I t0.fOp,I t0.fN,.rs 3,.nils])] (ai (Qdz (d := 16) K0h t0.fKids) tv) (bk 0 ?_)))
  obtain ⟨a2,a3,h⟩ := Qdt h
  have hL := impl_copyTerm_l0_ih _ _ a3 c hc
  refine Wp.loopN (by kernel_rfl) (WpL.view (fun a w hv => SRx.renL [(10,21)] (SRx.nilBL 4 3 21 [I t0.fOp,I t0.fN,.rs 3,.nils] hv (by kernel_rfl) (by kernel_rfl) (by kernel_rfl)) (by kernel_rfl) (by kernel_rfl) (by kernel_rfl)) (?_ : WpL _ c _ _ (mkS [(2,.ra 2 0),(3,.ra 4 0),(15,sM K0h t0.fKids),(16,I (t0.fKids.length : Int)),(17,I 0)] [(2,zT),(3,rI a0),(4,.box [I t0.fOp,I t0.fN,.rs 3,.rs 10]),(10,.arr (List.map K0k []))])))
  refine wl hL ?_
  obtain rfl := os h
  exact Qd7 (K9g hc 2 [3] [] [(2,.box [I t0.fOp,I t0.fN,.rs 3,.rs 10]),(3,rI a0),(10,rM K0k a2)] (rt (rq [true])))
 ·rintro impl_copyTerm_f impl_copyTerm_l0_f impl_copyTerm_ih impl_copyTerm_l0_ih ⟨t0,a0,a4,a5⟩ r h
  intro c hc
  refine WpL.step (K9i hc 1 [] [(18,.bool (decide (a5 < (t0.fKids.length : Int))))] (sN (ic h (fun a6 h => ?_) fun a6 h => ?_)))
  ·refine sk (sN (bk 1 ?_))
   obtain ⟨a7,a8,h⟩ := Qdt h
   refine rsd hc none [eL (K1z a7),oN,nW 16,oN] [18] [(5,.ra 16 0)] [(2,zT),(3,rI a0),(4,.box [I t0.fOp,I t0.fN,.rs 3,.rs 10]),(10,rM K0k a4),(16,K1y a7)] (ai (Qdx a8 (K0o a7)) tv) ?_
   obtain ⟨a9,b1,_,b2,h⟩ := bq2 h
   exact rgd hc (rx [[0],[1],[0],[0,2],[0,2,3],[5],[6],[7]]) [oN,oN,oN,some (.call (K2f a9) [] 17),some (.eqv (.mk 19 true) ⟨[(25,.rs 19)],[(19,some (.arr (List.map K0k [a9]))),(17,none),(18,none)],[19]⟩),some (.eqv (.mk 20 true) ⟨[(26,.rs 20)],[(20,some (rM K0k (a4 ++ [a9]))),(10,none),(19,none)],[20]⟩),oN,oN] [5] [] [(2,zT),(3,rI a0),(4,.box [I t0.fOp,I t0.fN,.rs 3,.rs 20]),(20,rM K0k (a4 ++ [a9]))] (cq (impl_copyTerm_ih _ _ b1) K95 (ac (congrArg (fun z => (⟨[(25,.rs 19)],[(19,some (.arr z)),(17,none),(18,none)],[19]⟩ : Wr)) ((Qf0 (K0q a9) Qez) : [AV.agg [I a9.fOp,I a9.fN,oI a9.fType,oM K0k a9.fKids]] = List.map K0k [a9])) (congrArg (fun z => (⟨[(26,.rs 20)],[(20,some (.arr z)),(10,none),(19,none)],[20]⟩ : Wr)) ((List.map_append).symm : (List.map K0k a4) ++ (List.map K0k [a9]) = List.map K0k (a4 ++ [a9]))) (Qe7 (enc1 := K0k) (enc2 := K0k) (e1 := a4) (e2 := [a9]) (sz := 4) K1f K1f b2) tv)) (K9b hc 2 [(2,.ra 2 0),(3,.ra 4 0),(15,sM K0h t0.fKids),(16,I (t0.fKids.length : Int)),(17,I (wr (a5 + 1)))] (Qdb (WpL.view (fun a w hv => SRx.renL [(10,20)] hv (by kernel_rfl) (by kernel_rfl) (by kernel_rfl)) (impl_copyTerm_l0_ih _ _ h c hc))))
  obtain rfl := os h
  exact xt 0 (Qd5 (Qdc (iv [])))
theorem Kqf : ∀ p r,Kqa p = some r → Kqc p r := Kqe.1
theorem Kqg : ∀ p r,Kqb p = some r → Kqd p r := Kqe.2
def Kqh (p : K01 × (List Int)) : Option (K01 × Bool) :=
 match p with
 | (t0,path1) =>
  (Kpz t0) >>= fun a0 =>
  if a0 = true then
  (Kq6 (t0,path1)) >>= fun (a1,a2) =>
  if a2 = true then
  (Kqa a1) >>= fun a3 =>
  some (a3,true)
  else
  some ((K01.mk 0 0 [] []),false)
  else
  some ((K01.mk 0 0 [] []),false)
def Kqi (p : K01 × (List Int)) (r : K01 × Bool) : Prop :=
 match p with
 | (t0,path1) => Q75 Tryz.prog 53 [K1z t0,sI path1] (.tup [.agg [I r.1.fOp,I r.1.fN,.osl (List.map I r.1.fType),oM K0k r.1.fKids],.bool r.2]) []
theorem Kqj : ∀ p r,Kqh p = some r → Kqi p r := by
 rintro ⟨t0,path1⟩ r h
 unfold Kqh at h
 refine b0 Tryz.f53 B53 23 [(0,K1z t0),(1,sI path1)] fun c hc => (rsd hc none [nW 1,nW 2,oN] [0] [(2,.ra 1 0),(4,.ra 2 0)] [(1,K1y t0),(2,zT)] tv (sN ?_))
 obtain ⟨a0,a1,h⟩ := Qdt h
 refine K9h hc none [oN,oc (.bool a0),oN] [] [(10,.bool (!a0))] (cq (Kq1 _ _ a1) K91 tv) ?_
 rcases is h with ⟨a2,h⟩ | ⟨a2,h⟩
 ·refine cF (!a0) (nF a2) (sk ?_)
  obtain ⟨⟨a3,a4⟩,a5,h⟩ := Qdt h
  refine rsd hc none [oN,oN,oc (.tup [K1z a3,.bool a4]),oN,oN,oN,nW 3,oN,oN] [10,2,1] [(6,.ra 3 0),(7,.bool a4)] [(2,zT),(3,K1y a3)] (cq (Kq8 _ _ a5) K93 tv) (sN (K9i hc 2 [7] [(19,.bool (!a4))] ?_))
  rcases is h with ⟨a6,h⟩ | ⟨a6,h⟩
  ·refine cF (!a4) (nF a6) (sk ?_)
   obtain ⟨a7,a8,h⟩ := Qdt h
   obtain rfl := os h
   exact rsd hc none [oN,some (.call (K2f a7) [] 4),oN,oN] [19,6] [(5,.bool true)] [(2,.box [I a7.fOp,I a7.fN,.rs 4,.rs 5]),(4,rI a7.fType),(5,rM K0k a7.fKids)] (cq (Kqf _ _ a8) K95 tv) (rt (rq [true,true]))
  refine cT (!a4) (nT a6) ?_
  obtain rfl := os h
  exact K9g hc 3 [19,6] [(5,.bool false)] [(2,zT)] (rt (rq [true,true]))
 refine cT (!a0) (nT a2) ?_
 obtain rfl := os h
 exact K9g hc 3 [10,2,1] [(5,.bool false)] [(2,zT)] (rt (rq [true,true]))
def Kqk (p : K00 × Int × Int) : Option (Bool) :=
 match p with
 | (s0,a1,b2) =>
  ((
  (Kiv (s0,a1)) >>= fun a0 =>
  if a0 = true then
  (Kiv (s0,b2)) >>= fun a2 =>
  if a2 = true then
  (Kk7 s0) >>= fun a3 =>
  some (a3)
  else
  some (false)
  else
  some (false)
  ) : Option (Bool)) >>= fun a4 =>
  some a4
def Kql (p : K00 × Int × Int) (r : Bool) : Prop :=
 match p with
 | (s0,a1,b2) => Q75 Tryz.prog 138 [K1w s0,I a1,I b2] (.bool r) []
theorem Kqm : ∀ p r,Kqk p = some r → Kql p r := by
 rintro ⟨s0,a1,b2⟩ r h
 unfold Kqk at h
 refine b0 Tryz.f138 K97 19 [(0,K1w s0),(1,I a1),(2,I b2)] fun c hc => (rsd hc none [nW 1,oN] [0] [(3,.ra 1 0)] [(1,K1v s0)] tv (sN ?_))
 obtain ⟨a0,a2,h⟩ := Qdt h
 refine Wp.into (x := .normal) (mkS [(6,.bool a0)] []) ?_ ?_
 ·replace h := a2
  obtain ⟨a3,a4,h⟩ := Qdt h
  rcases is h with ⟨a5,h⟩ | ⟨a5,h⟩
  ·obtain ⟨a6,a7,h⟩ := Qdt h
   rcases is h with ⟨a8,h⟩ | ⟨a8,h⟩
   ·obtain ⟨a9,b1,h⟩ := Qdt h
    obtain rfl := os h
    exact rj hc none [oN,oN,oc (.bool a3),oN,oN,oN,oc (.bool a6),oT,oN,oN,oc (.bool a9),oT,oN] (cq (Kix _ _ a4) K6p (ar 3 a5 (cq (Kix _ _ a7) K6p (ai a5 (ar 2 a8 (cq (Kk9 _ _ b1) K6z (ai a8 tv)))))))
   obtain rfl := os h
   exact rj hc none [oN,oN,oc (.bool a3),oN,oN,oN,oc (.bool a6),oT,oN,o_,o_,oF,oN] (cq (Kix _ _ a4) K6p (ar 3 a5 (cq (Kix _ _ a7) K6p (ai a5 (ar 2 (neT a8) (ai a8 tv))))))
  obtain rfl := os h
  exact rj hc none [oN,oN,oc (.bool a3),oN,o_,o_,o_,oF,oN,o_,o_,oF,oN] (cq (Kix _ _ a4) K6p (ar 3 (neT a5) (ai a5 (ar 2 (neT fF) (ai fF tv)))))
 clear a2
 obtain rfl := os h
 exact rt (rq [true])
def Kqn (p : K00 × Int × Int) : Option (Bool) :=
 match p with
 | (s0,a1,b2) =>
  ((
  (Kqk (s0,a1,b2)) >>= fun a0 =>
  if a0 = true then
  (Kj4 (s0,a1,b2)) >>= fun a2 =>
  some (a2)
  else
  some (false)
  ) : Option (Bool)) >>= fun a3 =>
  some a3
def Kqo (p : K00 × Int × Int) (r : Bool) : Prop :=
 match p with
 | (s0,a1,b2) => Q75 Tryz.prog 59 [K1w s0,I a1,I b2] (.bool r) []
theorem Kqp : ∀ p r,Kqn p = some r → Kqo p r := by
 rintro ⟨s0,a1,b2⟩ r h
 unfold Kqn at h
 refine b0 Tryz.f59 B59 17 [(0,K1w s0),(1,I a1),(2,I b2)] fun c hc => (rsd hc none [nW 1,oN] [0] [(3,.ra 1 0)] [(1,K1v s0)] tv (sN ?_))
 obtain ⟨a0,a2,h⟩ := Qdt h
 refine Wp.into (x := .normal) (mkS [(6,.bool a0)] []) ?_ ?_
 ·replace h := a2
  obtain ⟨a3,a4,h⟩ := Qdt h
  rcases is h with ⟨a5,h⟩ | ⟨a5,h⟩
  ·obtain ⟨a6,a7,h⟩ := Qdt h
   obtain rfl := os h
   exact rj hc none ([oN,oN,oN,oc (.bool a3)]++nN 4 [oc (.bool a6),oT,oN]) (cq (Kqm _ _ a4) K98 (ar 4 a5 (cq (Kj6 _ _ a7) K6u (ai a5 tv))))
  obtain rfl := os h
  exact rj hc none ([oN,oN,oN,oc (.bool a3),oN]++n_ 4 [oF,oN]) (cq (Kqm _ _ a4) K98 (ar 4 (neT a5) (ai a5 tv)))
 clear a2
 obtain rfl := os h
 exact rt (rq [true])
def Kqq (code0 : (List Int)) : Option (Bool) :=
 (K9k code0) >>= fun a0 =>
 if a0 = true then
 some true
 else
 (Kip code0) >>= fun (a1,a2,a3) =>
 (Kpf (a1,a2,a3)) >>= fun (a4,a5) =>
 (Kpi (a1,a2,a3)) >>= fun (a6,a7,a8) =>
 if (a8 == (a4 == 0)) = true then
 ((
 if (a4 == 0) = true then
 some (true)
 else
 some ((a4 == 1))
 ) : Option (Bool)) >>= fun a9 =>
 if a9 = true then
 some ((a5.length : Int) == 0)
 else
 (Kqh (a3,a5)) >>= fun (b1,b2) =>
 if b2 = true then
 if (a4 == 2) = true then
 ((
 if (b1.fOp == 2) = true then
 some (true)
 else
 some ((b1.fOp == 3))
 ) : Option (Bool)) >>= fun b3 =>
 some b3
 else
 if (a4 == 4) = true then
 some (b1.fOp == 5)
 else
 if (a4 == 5) = true then
 some (b1.fOp == 8)
 else
 if (a4 == 6) = true then
 some (b1.fOp == 10)
 else
 if (a4 == 7) = true then
 some (b1.fOp == 12)
 else
 if (a4 == 8) = true then
 ((
 if (b1.fOp == 5) = true then
 (Kqn (a1,1,b1.fN)) >>= fun b4 =>
 some ((!b4))
 else
 if (b1.fOp == 8) = true then
 (Kqn (a1,1,b1.fN)) >>= fun b4 =>
 some ((!b4))
 else
 if (b1.fOp == 12) = true then
 (Kqn (a1,1,b1.fN)) >>= fun b4 =>
 some ((!b4))
 else
 some (false)
 ) : Option (Bool)) >>= fun b5 =>
 some b5
 else
 if (a4 == 9) = true then
 ((
 if (b1.fOp == 5) = true then
 some (true)
 else
 if (b1.fOp == 8) = true then
 some (true)
 else
 if (b1.fOp == 12) = true then
 some (true)
 else
 some ((b1.fOp == 9))
 ) : Option (Bool)) >>= fun b6 =>
 some b6
 else
 some (a4 == 3)
 else
 some false
 else
 some false
def Kqr (code0 : (List Int)) (r : Bool) : Prop :=
 Q75 Tryz.prog 10 [sM U8 code0] (.bool r) []
theorem Kqs : ∀ p r,Kqq p = some r → Kqr p r := by
 rintro code0 r h
 unfold Kqq at h
 refine b0 Tryz.f10 B10 132 [(0,sM U8 code0)] fun c hc => (K9g hc 1 [] [] [] (sN ?_))
 obtain ⟨a0,a1,h⟩ := Qdt h
 refine rsd hc none [oN,oc (.bool a0)] [] [(14,.bool a0)] [] (cq (K9m _ _ a1) K3b tv) (ic h (fun a2 h => ?_) fun a2 h => ?_)
 ·obtain rfl := os h
  exact rs0 hc 1 [(2,.bool true)] [] (rt (rq [true]))
 refine sk ?_
 obtain ⟨⟨a3,a4,a5⟩,a6,h⟩ := Qdt h
 refine rs hc none ([oN,oc (.tup [K1w a3,.osl (List.map K14 a4),K1z a5])]++nN 4 [nW 2,nW 3,oN,oN,oN]) [(3,.ra 2 0),(4,.rs 1),(5,.ra 3 0)] [(1,rM K14 a4),(2,K1v a3),(3,K1y a5)] (cq (Kir _ _ a6) K6m tv) (sN (vz 1 (K18 a4) [(3,.ra 2 0),(4,sL a4),(5,.ra 3 0)] [(2,K1v a3),(3,K1y a5)] ?_))
 obtain ⟨⟨a7,a8⟩,a9,h⟩ := Qdt h
 refine K9d hc none ([oN,oN,oN,oc (.tup [I a7,sI a8])]++nN 5 []) [] [(6,I a7),(7,sI a8)] (cq (Kph _ _ a9) K8v tv) ?_
 obtain ⟨⟨b1,b2,b3⟩,b4,h⟩ := Qdt h
 refine K9h hc none ([oN,oN,oN,some (.call (.tup [oI b1,oI b2,.bool b3]) [] 4)]++nN 7 []) [4] [(10,.bool b3)] (cq (Kpk _ _ b4) K8w tv) (sN (K9i hc 4 [10] [(39,.bool (!(b3 == (a7 == 0))))] ?_))
 rcases is h with ⟨b5,h⟩ | ⟨b5,h⟩
 ·refine cF ((!(b3 == (a7 == 0)))) (nF b5) (sk (sN (sN ?_)))
  obtain ⟨b6,b7,h⟩ := Qdt h
  refine wi [39] [(45,.bool b6)] ?_ ?_
  ·replace h := b7
   rcases is h with ⟨b8,h⟩ | ⟨b8,h⟩
   ·obtain rfl := os h
    exact rj hc none [oN,oN,oN,o_,o_,oT] (ar 2 (neF b8) (ai b8 tv))
   obtain rfl := os h
   exact rj hc none (nN 5 [oF]) (ar 3 b8 tv)
  clear b7
  refine ic h (fun b9 h => ?_) fun b9 h => ?_
  ·obtain rfl := os h
   exact rs hc none [oN,nQ ⟨[(47,I (a8.length : Int))],[],[]⟩,oN,oN] [(2,.bool ((a8.length : Int) == 0))] [] (ai (Qdz (d := 47) I a8) tv) (rt (rq [true]))
  refine sk ?_
  obtain ⟨⟨c0,c1⟩,c2,h⟩ := Qdt h
  refine rsd hc none [oN,oN,some (.call (.tup [K2f c0,.bool c1]) [] 6),oN,oN,oN,nW 8,oN,oN] [45,7,5] [(11,.ra 8 0),(12,.bool c1)] [(2,K1v a3),(6,rI c0.fType),(7,rM K0k c0.fKids),(8,.box [I c0.fOp,I c0.fN,.rs 6,.rs 7])] (cq (Kqj _ _ c2) K96 tv) (sN (K9f hc 2 [(3,.ra 2 0),(6,I a7),(11,.ra 8 0),(56,.bool (!c1))] ?_))
  rcases is h with ⟨c3,h⟩ | ⟨c3,h⟩
  ·refine cF (!c1) (nF c3) (sk (sN (K9i hc 1 [56] [(57,I a7)] (bk 0 (K9i hc 2 [] [(58,.bool (a7 == 2))] (ic h (fun c4 h => ?_) fun c4 h => ?_))))))
   ·refine sN ?_
    obtain ⟨c5,c6,h⟩ := Qdt h
    refine Wp.into (x := .normal) (mkS [(2,.bool c5)] []) ?_ ?_
    ·replace h := c6
     rcases is h with ⟨c7,h⟩ | ⟨c7,h⟩
     ·obtain rfl := os h
      exact rj hc none (nN 4 [o_,o_,o_,oT,oN]) (ar 3 (neF c7) (ai c7 tv))
     obtain rfl := os h
     exact rj hc none (nN 7 [oF,oN]) (ar 4 c7 tv)
    clear c6
    obtain rfl := os h
    exact rt (rq [true])
   refine K9i hc 2 [58] [(68,.bool (a7 == 4))] (ic h (fun c8 h => ?_) fun c8 h => ?_)
   ·obtain rfl := os h
    exact rs0 hc 4 [(2,.bool (c0.fOp == 5))] [] (rt (rq [true]))
   refine K9i hc 2 [68] [(73,.bool (a7 == 5))] (ic h (fun c9 h => ?_) fun c9 h => ?_)
   ·obtain rfl := os h
    exact rs0 hc 4 [(2,.bool (c0.fOp == 8))] [] (rt (rq [true]))
   refine K9i hc 2 [73] [(78,.bool (a7 == 6))] (ic h (fun d0 h => ?_) fun d0 h => ?_)
   ·obtain rfl := os h
    exact rs0 hc 4 [(2,.bool (c0.fOp == 10))] [] (rt (rq [true]))
   refine K9f hc 2 [(3,.ra 2 0),(6,I a7),(11,.ra 8 0),(57,I a7),(83,.bool (a7 == 7))] (ic h (fun d1 h => ?_) fun d1 h => ?_)
   ·obtain rfl := os h
    exact rs0 hc 4 [(2,.bool (c0.fOp == 12))] [] (rt (rq [true]))
   refine K9i hc 2 [83] [(88,.bool (a7 == 8))] (ic h (fun d2 h => ?_) fun d2 h => ?_)
   ·refine sN ?_
    obtain ⟨d3,d4,h⟩ := Qdt h
    refine Wp.into (x := .normal) (mkS [(2,.bool d3)] []) ?_ ?_
    ·replace h := d4
     rcases is h with ⟨d5,h⟩ | ⟨d5,h⟩
     ·obtain ⟨d6,d7,h⟩ := Qdt h
      obtain rfl := os h
      exact rj hc none (nN 4 ([o_,o_,o_,oT,oN,o_,o_,o_,oT]++nN 4 [oc (.bool d6),oN,oT,oN])) (ar 3 (neF d5) (ai d5 (ar 3 nf (ar 5 tt (cq (Kqp _ _ d7) K99 (ar 2 tt tv))))))
     rcases is h with ⟨d8,h⟩ | ⟨d8,h⟩
     ·obtain ⟨d6,d7,h⟩ := Qdt h
      obtain rfl := os h
      exact rj hc none (nN 7 ([oF,oN,o_,o_,o_,oT]++nN 4 [oc (.bool d6),oN,oT,oN])) (ar 4 d5 (ar 3 (neF d8) (ai d8 (ar 4 tt (cq (Kqp _ _ d7) K99 (ar 2 tt tv))))))
     rcases is h with ⟨d9,h⟩ | ⟨d9,h⟩
     ·obtain ⟨d6,d7,h⟩ := Qdt h
      obtain rfl := os h
      exact rj hc none (nN 7 ([oF]++nN 4 ([oF]++nN 4 [oc (.bool d6),oN,oT,oN]))) (ar 4 d5 (ar 4 d8 (ar 4 d9 (cq (Kqp _ _ d7) K99 (ar 2 d9 tv)))))
     obtain rfl := os h
     exact rj hc none (nN 7 ([oF]++nN 4 ([oF,oN]++n_ 5 [oF,oN]))) (ar 4 d5 (ar 4 d8 (ar 5 (neT d9) (ai d9 tv))))
    clear d4
    obtain rfl := os h
    exact rt (rq [true])
   refine K9g hc 2 [88,3,57] [(110,.bool (a7 == 9))] [(6,rI c0.fType),(7,rM K0k c0.fKids),(8,.box [I c0.fOp,I c0.fN,.rs 6,.rs 7])] (ic h (fun e0 h => ?_) fun e0 h => ?_)
   ·refine sN ?_
    obtain ⟨e1,e2,h⟩ := Qdt h
    refine Wp.into (x := .normal) (mkS [(2,.bool e1)] []) ?_ ?_
    ·replace h := e2
     rcases is h with ⟨e3,h⟩ | ⟨e3,h⟩
     ·obtain rfl := os h
      exact rj hc none (nN 4 [o_,o_,o_,oT,oN,o_,o_,o_,oT,oN,o_,o_,o_,oT,oN]) (ar 3 (neF e3) (ai e3 (ar 3 nf (ai tt (ar 3 nf (ai tt tv))))))
     rcases is h with ⟨e4,h⟩ | ⟨e4,h⟩
     ·obtain rfl := os h
      exact rj hc none (nN 7 [oF,oN,o_,o_,o_,oT,oN,o_,o_,o_,oT,oN]) (ar 4 e3 (ar 3 (neF e4) (ai e4 (ar 3 nf (ai tt tv)))))
     rcases is h with ⟨e5,h⟩ | ⟨e5,h⟩
     ·obtain rfl := os h
      exact rj hc none (nN 7 ([oF]++nN 4 [oF,oN,o_,o_,o_,oT,oN])) (ar 4 e3 (ar 4 e4 (ar 3 (neF e5) (ai e5 tv))))
     obtain rfl := os h
     exact rj hc none (nN 7 ([oF]++nN 4 ([oF]++nN 4 [oF,oN]))) (ar 4 e3 (ar 4 e4 (ar 4 e5 tv)))
    clear e2
    obtain rfl := os h
    exact rt (rq [true])
   obtain rfl := os h
   exact sk (rs0 hc 3 [(2,.bool (a7 == 3))] [] (rt (rq [true])))
  refine cT (!c1) (nT c3) ?_
  obtain rfl := os h
  exact rs0 hc 1 [(2,.bool false)] [] (rt (rq [true]))
 refine cT ((!(b3 == (a7 == 0)))) (nT b5) ?_
 obtain rfl := os h
 exact rs0 hc 1 [(2,.bool false)] [] (rt (rq [true]))
end Go.Am
