/- Walks, printed. -/
import Derived.Test.YtckgdfakjjdodaaGreatGPUTF4
set_option linter.unusedVariables false
set_option linter.unusedSimpArgs false
set_option maxRecDepth 100000
namespace Go.Am
open Go Go.Proofs
def Kf6 : Option (List (List Nat)) := rx [[0],[1],[0],[0],[0],[0],[2,5],[0],[0,7],[9],[10],[11],[12]]
def Kf7 : Option (List (List Nat)) := rx [[0],[1],[2],[3],[3],[3],[3],[3,4,5,6],[3],[9],[10],[11]]
def Kf8 : Option (List (List Nat)) := rx [[0],[0],[0],[0,2],[4],[5]]
def Kf9 : Option (List (List Nat)) := rx [[0],[0],[0],[0],[0],[0,2,3,4],[0],[0],[0],[0,2,3,4,5,6,7,8],[0,1,2,3,4,5,6,7,8,9],[11],[12]]
def Kfa : Option (List (List Nat)) := rx [[0],[0],[0],[0],[0],[0,2,3,4],[6],[7]]
mutual
def Kfb (p : K01 × K02 × LL × (List Int) × Int) : Option (K00 × K01) :=
 match p with
 | (c0,s1,ctx2,ty3,deep4) =>
  (K8a (c0,5)) >>= fun (a0,a1) =>
  ((
   if (decide (a0 > 1)) = true then
   (K8a (a1,(ctx2.length : Int))) >>= fun (a2,a3) =>
   (Kf3 (c0,s1,ctx2,ty3,deep4,a2,a3,0)) >>= fun fl => match fl with
   | .inl () =>
    some (.inl (a3.fb,a3.fi,a3.fh))
   | .inr r =>
    some (.inr r)
   else
   some (.inl (a1.fb,a1.fi,a1.fh))) : Option (((List Int) × Int × Int) ⊕ ((K00 × K01)))) >>= fun fl => match fl with
  | .inl (a4,a5,a6) =>
   ((
   if (decide (deep4 > 0)) = true then
    (K8d ((K01.mk a4 a5 a6),3)) >>= fun (a7,a8) =>
    some ((a8.fb,a8.fi,a8.fh,a7))
   else
    some ((a4,a5,a6,false))
   ) : Option ((List Int) × Int × Int × Bool)) >>= fun (a9,b1,b2,b3) =>
   if b3 = true then
   (Kfe ((K01.mk a9 b1 b2),s1,ctx2,ty3,(wr (deep4 - 1)))) >>= fun (b4,b5) =>
   some (b4,b5)
   else
   (idx ty3 0) >>= fun b6 =>
   ((
    if (b6 == 0) = true then
    if (decide (deep4 > 0)) = true then
    (K8d ((K01.mk a9 b1 b2),2)) >>= fun (b7,b8) =>
    some ((b8.fb,b8.fi,b8.fh,b7))
    else
    some ((a9,b1,b2,false))
    else
    some ((a9,b1,b2,false))
   ) : Option ((List Int) × Int × Int × Bool)) >>= fun (b9,c1,c2,c3) =>
   if c3 = true then
    (Kfb ((K01.mk b9 c1 c2),s1,ctx2,ty3,(wr (deep4 - 1)))) >>= fun (c4,c5) =>
    (Kfb (c5,s1,ctx2,ty3,(wr (deep4 - 1)))) >>= fun (c6,c7) =>
    (Kcd (2,0,[c4,c6])) >>= fun c8 =>
    some (c8,c7)
   else
    if (b6 == 0) = true then
    (K8a ((K01.mk b9 c1 c2),3)) >>= fun (c9,d0) =>
    (Kcd (1,c9,[])) >>= fun d1 =>
    some (d1,d0)
    else
    if (b6 == 1) = true then
    (Kcz (ty3,0)) >>= fun d2 =>
    (Kfb ((K01.mk b9 c1 c2),s1,ctx2,d2,(wr (deep4 - 1)))) >>= fun (d3,d4) =>
    (Kcz (ty3,1)) >>= fun d5 =>
    (Kfb (d4,s1,ctx2,d5,(wr (deep4 - 1)))) >>= fun (d6,d7) =>
    (Kcd (4,0,[d3,d6])) >>= fun d8 =>
    some (d8,d7)
    else
    ((
    if (b6 == 2) = true then
    (K8d ((K01.mk b9 c1 c2),2)) >>= fun (d9,e0) =>
    some ((e0.fb,e0.fi,e0.fh,d9))
    else
    some ((b9,c1,c2,false))
    ) : Option ((List Int) × Int × Int × Bool)) >>= fun (e1,e2,e3,e4) =>
    if e4 = true then
    (Kcz (ty3,1)) >>= fun e5 =>
    (Kcz (ty3,0)) >>= fun e6 =>
    (Kfb ((K01.mk e1 e2 e3),s1,ctx2,e6,(wr (deep4 - 1)))) >>= fun (e7,e8) =>
    some ((K00.mk 6 0 e5 [e7]),e8)
    else
    if (b6 == 2) = true then
    (Kcz (ty3,0)) >>= fun e9 =>
    (Kcz (ty3,1)) >>= fun f0 =>
    (Kfb ((K01.mk e1 e2 e3),s1,ctx2,f0,(wr (deep4 - 1)))) >>= fun (f1,f2) =>
    some ((K00.mk 7 0 e9 [f1]),f2)
    else
    (Kcj b6) >>= fun f3 =>
    if f3 = true then
    (Kd2 b6) >>= fun f4 =>
    (Kcz (ty3,0)) >>= fun f5 =>
    (Kfb ((K01.mk e1 e2 e3),s1,ctx2,f5,(wr (deep4 - 1)))) >>= fun (f6,f7) =>
    (Kcd (11,f4,[f6])) >>= fun f8 =>
    some (f8,f7)
    else
    (Kfc ((K01.mk e1 e2 e3),s1,ctx2,ty3,deep4)) >>= fun (f9,g0) =>
    some (f9,g0)
  | .inr r =>
   some r
 partial_fixpoint
def Kfc (p : K01 × K02 × LL × (List Int) × Int) : Option (K00 × K01) :=
 match p with
 | (c0,s1,ctx2,ty3,deep4) =>
  (Kcz (ty3,0)) >>= fun a0 =>
  (Kcz (ty3,1)) >>= fun a1 =>
  (idx ty3 0) >>= fun a2 =>
  (Kd2 a2) >>= fun a3 =>
  (Kd5 (ctx2,[a0])) >>= fun a4 =>
  (Kfb (c0,s1,a4,a1,(wr (deep4 - 1)))) >>= fun (a5,a6) =>
  (Kfd (s1,deep4,a0,a1,a3,a4,a6.fb,a6.fi,a6.fh,a5.fOp,a5.fN,a5.fType,a5.fKids,0)) >>= fun (a7,a8,a9,b1,b2,b3,b4) =>
  some ((K00.mk 9 a3 a0 [(K00.mk a7 a8 a9 b1)]),(K01.mk b2 b3 b4))
 partial_fixpoint
def Kfd (p : K02 × Int × (List Int) × (List Int) × Int × LL × (List Int) × Int × Int × Int × Int × (List Int) × (List K00) × Int) : Option (Int × Int × (List Int) × (List K00) × (List Int) × Int × Int) :=
 match p with
 | (s1,deep4,a0,a1,a2,a3,a4,a5,a6,a7,a8,a9,b1,b2) =>
  ((
  if (decide (b2 < 3)) = true then
  (Kee (s1,a3,(K00.mk a7 a8 a9 b1),0)) >>= fun b3 =>
  (K9v (s1,b3,a2)) >>= fun b4 =>
  some ((!b4))
  else
  some (false)
  ) : Option (Bool)) >>= fun b5 =>
  if b5 = true then
  (Kfb ((K01.mk a4 a5 a6),s1,a3,a1,(wr (deep4 - 1)))) >>= fun (b6,b7) =>
  ((
  if (b2 == 1) = true then
  (Kca (a0,a1)) >>= fun b8 =>
  some (b8)
  else
  some (false)
  ) : Option (Bool)) >>= fun b9 =>
  ((
  if b9 = true then
  (Kcd (0,0,[])) >>= fun c0 =>
  some ((c0.fOp,c0.fN,c0.fType,c0.fKids))
  else
  some ((b6.fOp,b6.fN,b6.fType,b6.fKids))
  ) : Option (Int × Int × (List Int) × (List K00))) >>= fun (c1,c2,c3,c4) =>
  Kfd (s1,deep4,a0,a1,a2,a3,b7.fb,b7.fi,b7.fh,c1,c2,c3,c4,(wr (b2 + 1)))
  else
  some ((a7,a8,a9,b1,a4,a5,a6))
 partial_fixpoint
def Kfe (p : K01 × K02 × LL × (List Int) × Int) : Option (K00 × K01) :=
 match p with
 | (c0,s1,ctx2,ty3,deep4) =>
  (K8a (c0,6)) >>= fun (a0,a1) =>
  if (a0 == 0) = true then
  (Kfb (a1,s1,ctx2,[0],deep4)) >>= fun (a2,a3) =>
  (Kfb (a3,s1,ctx2,ty3,deep4)) >>= fun (a4,a5) =>
  (Kfb (a5,s1,ctx2,ty3,deep4)) >>= fun (a6,a7) =>
  (Kcd (3,0,[a2,a4,a6])) >>= fun a8 =>
  some (a8,a7)
  else
  if (a0 == 1) = true then
  (K8d (a1,2)) >>= fun (a9,b1) =>
  (Kbw (b1,s1,1,a9)) >>= fun (b2,b3) =>
  (Kbw (b3,s1,1,true)) >>= fun (b4,b5) =>
  (Kd5 (ctx2,[b4,b2])) >>= fun b6 =>
  (Kfb (b5,s1,b6,ty3,deep4)) >>= fun (b7,b8) =>
  (Kee (s1,b6,b7,0)) >>= fun b9 =>
  (Kee (s1,b6,b7,1)) >>= fun c1 =>
  (Ka9 (s1,b9,c1)) >>= fun c2 =>
  (Ka9 (s1,1,c2)) >>= fun c3 =>
  (Kel (b8,s1,c3)) >>= fun (c4,c5) =>
  (Kbt (1,[b2,b4])) >>= fun c6 =>
  (Kfb (c5,s1,ctx2,c6,deep4)) >>= fun (c7,c8) =>
  (Kcd (5,c4,[c7,b7])) >>= fun c9 =>
  some (c9,c8)
  else
  if (a0 == 2) = true then
  (Kbw (a1,s1,1,true)) >>= fun (d0,d1) =>
  (Kbw (d1,s1,1,true)) >>= fun (d2,d3) =>
  (Kd5 (ctx2,[d0])) >>= fun d4 =>
  (Kd5 (ctx2,[d2])) >>= fun d5 =>
  (Kfb (d3,s1,d4,ty3,deep4)) >>= fun (d6,d7) =>
  (Kfb (d7,s1,d5,ty3,deep4)) >>= fun (d8,d9) =>
  (Kee (s1,d4,d6,0)) >>= fun e0 =>
  (Kee (s1,d5,d8,0)) >>= fun e1 =>
  (Ka9 (s1,e0,e1)) >>= fun e2 =>
  (Ka9 (s1,1,e2)) >>= fun e3 =>
  (Kel (d9,s1,e3)) >>= fun (e4,e5) =>
  (Kbt (2,[d0,d2])) >>= fun e6 =>
  (Kfb (e5,s1,ctx2,e6,deep4)) >>= fun (e7,e8) =>
  (Kcd (8,e4,[e7,d6,d8])) >>= fun e9 =>
  some (e9,e8)
  else
  if (a0 == 3) = true then
  (K8d (a1,2)) >>= fun (f0,f1) =>
  (Kbw (f1,s1,1,f0)) >>= fun (f2,f3) =>
  (Kd5 (ctx2,[f2])) >>= fun f4 =>
  (Kfb (f3,s1,f4,ty3,deep4)) >>= fun (f5,f6) =>
  (Kee (s1,f4,f5,0)) >>= fun f7 =>
  (Kel (f6,s1,f7)) >>= fun (f8,f9) =>
  (Kbt ((wr (19 + f8)),[f2])) >>= fun g0 =>
  (Kfb (f9,s1,ctx2,g0,deep4)) >>= fun (g1,g2) =>
  (Kcd (12,1,[g1,f5])) >>= fun g3 =>
  some (g3,g2)
  else
  (K8d (a1,2)) >>= fun (g4,g5) =>
  (Kbw (g5,s1,2,g4)) >>= fun (g6,g7) =>
  (Kd5 (ctx2,[g6])) >>= fun g8 =>
  (Kfb (g7,s1,g8,ty3,deep4)) >>= fun (g9,i0) =>
  (Kee (s1,g8,g9,0)) >>= fun i1 =>
  (Kel (i0,s1,i1)) >>= fun (i2,i3) =>
  (K8d (i3,4)) >>= fun (i4,i5) =>
  ((
   if i4 = true then
   (Kbt ((wr (3 + i2)),[g6,ty3])) >>= fun i6 =>
   if (decide ((i6.length : Int) < 12)) = true then
   (Kcd (0,0,[])) >>= fun i7 =>
   (Kfb (i5,s1,ctx2,g6,(wr (deep4 - 1)))) >>= fun (i8,i9) =>
   (Kes (i8,1,0)) >>= fun j0 =>
   (Kcd (10,0,[i7,j0])) >>= fun j8 =>
   (Kcd (10,0,[(K00.mk 9 1 i6 [j8]),(K00.mk 9 i2 g6 [g9])])) >>= fun j9 =>
   some (.inr (j9,i9))
   else
   some (.inl ())
   else
   some (.inl ())) : Option ((Unit) ⊕ ((K00 × K01)))) >>= fun fl => match fl with
  | .inl () =>
   (Kfb (i5,s1,ctx2,g6,(wr (deep4 - 1)))) >>= fun (k0,k1) =>
   (Kcd (10,0,[(K00.mk 9 i2 g6 [g9]),k0])) >>= fun k2 =>
   some (k2,k1)
  | .inr r =>
   some r
 partial_fixpoint
end
def Kff (p : K01 × K02 × LL × (List Int) × Int) (r : K00 × K01) : Prop :=
 match p with
 | (c0,s1,ctx2,ty3,deep4) => Q75 Tryz.prog 231 [.optr [.sl (List.map U8 c0.fb),I c0.fi,I c0.fh],K1h s1,sL ctx2,sI ty3,I deep4] (.agg [I r.1.fOp,I r.1.fN,.sl (List.map I r.1.fType),.sl (List.map K05 r.1.fKids)]) [.optr [.sl (List.map U8 r.2.fb),I r.2.fi,I r.2.fh],.undef,.undef,.undef,.undef]
def Kfg (p : K01 × K02 × LL × (List Int) × Int) (r : K00 × K01) : Prop :=
 match p with
 | (c0,s1,ctx2,ty3,deep4) => Q75 Tryz.prog 252 [.optr [.sl (List.map U8 c0.fb),I c0.fi,I c0.fh],K1h s1,sL ctx2,sI ty3,I deep4] (.agg [I r.1.fOp,I r.1.fN,.sl (List.map I r.1.fType),.sl (List.map K05 r.1.fKids)]) [.optr [.sl (List.map U8 r.2.fb),I r.2.fi,I r.2.fh],.undef,.undef,.undef,.undef]
def Kfh (p : K02 × Int × (List Int) × (List Int) × Int × LL × (List Int) × Int × Int × Int × Int × (List Int) × (List K00) × Int) (fl : Int × Int × (List Int) × (List K00) × (List Int) × Int × Int) : Prop :=
 match p with
 | (s1,deep4,a0,a1,a2,a3,a4,a5,a6,a7,a8,a9,b1,b2) => ∀ c : Ctx,c.nt = 70 → WpL Tryz.prog c (cl (cl (cr (cl (cr (cr (cr (cr (cr (cr K4d)))))))))) (Kf2 c a0 a2 fl) (mkS [(0,.ra 1000 0),(4,I deep4),(6,.ra 1 0),(10,.ra 2 0),(11,sI a0),(12,sI a1),(13,I a2),(14,sL a3),(15,.ra 8 0),(16,I b2)] [(1,K1g s1),(2,.box [I 0,I 0,.nils,.nils]),(8,.box [I a7,I a8,sI a9,.sl (List.map K05 b1)]),(1000,.box [.sl (List.map U8 a4),I a5,I a6])])
def Kfi (p : K01 × K02 × LL × (List Int) × Int) (r : K00 × K01) : Prop :=
 match p with
 | (c0,s1,ctx2,ty3,deep4) => Q75 Tryz.prog 251 [.optr [.sl (List.map U8 c0.fb),I c0.fi,I c0.fh],K1h s1,sL ctx2,sI ty3,I deep4] (.agg [I r.1.fOp,I r.1.fN,.sl (List.map I r.1.fType),.sl (List.map K05 r.1.fKids)]) [.optr [.sl (List.map U8 r.2.fb),I r.2.fi,I r.2.fh],.undef,.undef,.undef,.undef]
theorem Kfj : (∀ p r,Kfb p = some r → Kff p r) ∧ (∀ p r,Kfc p = some r → Kfg p r) ∧ (∀ p r,Kfd p = some r → Kfh p r) ∧ (∀ p r,Kfe p = some r → Kfi p r) := by
 refine Kfb.mutual_partial_correctness Kff Kfg Kfh Kfi ?_ ?_ ?_ ?_
 ·rintro spec_dOf_f spec_dFun_f spec_dAround_f spec_dOf_ih spec_dFun_ih spec_dAround_ih ⟨c0,s1,ctx2,ty3,deep4⟩ r h
  refine Q75.bodyO K28 (fn := Tryz.f231) (code := K3x) (by kernel_rfl) (by kernel_rfl) (by kernel_rfl) (nt := 167) (by kernel_rfl) (by kernel_rfl) (T := [(0,.ra 1000 0),(1,K1h s1),(2,sL ctx2),(3,sI ty3),(4,I deep4)]) (O := [(1000,K1e c0)]) (by kernel_rfl) (by kernel_rfl) (fun c hc => ?_)
  refine rs hc none [some (.new 1),some (.new 2)] [(0,.ra 1000 0),(2,sL ctx2),(3,sI ty3),(4,I deep4),(6,.ra 1 0),(10,.ra 2 0)] [(1,K1g s1),(2,.box [I 0,I 0,.nils,.nils]),(1000,K1e c0)] tv ?_
  refine sN ?_
  obtain ⟨⟨a0,a1⟩,a2,h⟩ := Qdj h
  refine rs hc none [oN,some (.call (I a0) [.optr [.sl (List.map U8 a1.fb),I a1.fi,I a1.fh],.undef] 1),oN] [(0,.ra 1000 0),(2,sL ctx2),(3,sI ty3),(4,I deep4),(6,.ra 1 0),(10,.ra 2 0),(17,.bool (decide (a0 > 1)))] [(1,K1g s1),(2,.box [I 0,I 0,.nils,.nils]),(1000,K1e a1)] (ab (K8c _ _ a2) K2h tv) ?_
  obtain ⟨fl,a3,h⟩ := Qdj h
  refine flw (Kf0 c c0 s1 ctx2 ty3 deep4 fl) ?_ (fun hF => ?_)
  ·replace h := a3
   refine ic h (fun a4 h => ?_) fun a4 h => ?_
   ·obtain ⟨⟨a5,a6⟩,a7,h⟩ := Qdj h
    refine rs hc none [oN,oN,some (.eqv (.no) ⟨[(20,I (ctx2.length : Int))],[],[]⟩),some (.call (I a5) [.optr [.sl (List.map U8 a6.fb),I a6.fi,I a6.fh],.undef] 1),oN] [(0,.ra 1000 0),(2,sL ctx2),(3,sI ty3),(4,I deep4),(6,.ra 1 0),(10,.ra 2 0),(11,I a5)] [(1,K1g s1),(2,.box [I 0,I 0,.nils,.nils]),(1000,K1e a6)] (ac (Qdp (d := 20) K0q ctx2) (K8c _ _ a7) K2h tv) ?_
    refine K7p hc 1 [(0,.ra 1000 0),(2,sL ctx2),(3,sI ty3),(4,I deep4),(6,.ra 1 0),(10,.ra 2 0),(11,I a5),(12,I 0)] ?_
    refine bk 0 ?_
    obtain ⟨fl,a8,h⟩ := Qdj h
    have hL := Kf5 _ _ a8 c hc
    refine lp ?_
    rcases fl with ⟨⟩ | r
    ·refine WpL.into (e := (.exit 0)) (mkS [(0,.ra 1000 0),(2,sL ctx2),(3,sI ty3),(4,I deep4),(6,.ra 1 0),(10,.ra 2 0)] [(1,K1g s1),(2,.box [I 0,I 0,.nils,.nils]),(1000,K1e a6)]) hL ?_
     refine Qcx ?_
     obtain rfl := os h
     exact Qd5.mk
    refine WpL.mono hL ?_
    rintro _ _ ⟨rfl,hfin⟩
    obtain rfl := os h
    exact ⟨rfl,hfin⟩
   refine sk ?_
   obtain rfl := os h
   exact iv []
  rcases fl with ⟨a9,b1,b2⟩ | r
  ·refine Wp.into (x := .normal) (mkS [(0,.ra 1000 0),(2,sL ctx2),(3,sI ty3),(4,I deep4),(6,.ra 1 0),(10,.ra 2 0)] [(1,K1g s1),(2,.box [I 0,I 0,.nils,.nils]),(1000,.box [.sl (List.map U8 a9),I b1,I b2])]) hF ?_
   refine sN ?_
   refine sN ?_
   obtain ⟨⟨b3,b4,b5,b6⟩,b7,h⟩ := Qdj h
   refine Wp.into (x := .normal) (mkS [(0,.ra 1000 0),(2,sL ctx2),(3,sI ty3),(4,I deep4),(6,.ra 1 0),(10,.ra 2 0),(47,.bool b6)] [(1,K1g s1),(2,.box [I 0,I 0,.nils,.nils]),(1000,.box [.sl (List.map U8 b3),I b4,I b5])]) ?_ ?_
   ·replace h := b7
    rcases is h with ⟨b8,h⟩ | ⟨b8,h⟩
    ·obtain ⟨⟨b9,c1⟩,c2,h⟩ := Qdj h
     refine rg hc none [oN,oN,oN,oN,some (.call (.bool b9) [.optr [.sl (List.map U8 c1.fb),I c1.fi,I c1.fh],.undef] 1),oT] [(0,.ra 1000 0),(2,sL ctx2),(3,sI ty3),(4,I deep4),(6,.ra 1 0),(10,.ra 2 0),(47,.bool b9)] [(1,K1g s1),(2,.box [I 0,I 0,.nils,.nils]),(1000,K1e c1)] (ar 2 b8 (ac (K8f _ _ c2) K2i b8 tv)) ?_
     obtain ⟨rfl,hq0⟩ := Prod.mk.inj (Option.some.inj h)
     obtain ⟨rfl,hq1⟩ := Prod.mk.inj (hq0)
     obtain ⟨rfl,rfl⟩ := Prod.mk.inj (hq1)
     exact Qd5.mk
    refine rgs hc none [oN,oN,oN,o_,o_,oF] [(0,.ra 1000 0),(2,sL ctx2),(3,sI ty3),(4,I deep4),(6,.ra 1 0),(10,.ra 2 0),(47,.bool false)] (ar 2 (neT b8) (ai b8 tv)) ?_
    obtain ⟨rfl,hq0⟩ := Prod.mk.inj (Option.some.inj h)
    obtain ⟨rfl,hq1⟩ := Prod.mk.inj (hq0)
    obtain ⟨rfl,rfl⟩ := Prod.mk.inj (hq1)
    exact Qd5.mk
   clear b7
   refine ic h (fun c3 h => ?_) fun c3 h => ?_
   ·obtain ⟨⟨c4,c5⟩,c6,h⟩ := Qdj h
    refine rs hc none [oN,oN,oN,oN,oN,oN,some (.call (K1d c4) [.optr [.sl (List.map U8 c5.fb),I c5.fi,I c5.fh],.undef,.undef,.undef,.undef] 1),oN] [(10,.ra 2 0)] [(2,K1c c4),(1000,K1e c5)] (ab (spec_dAround_ih _ _ c6) K3w tv) ?_
    refine rt ?_
    obtain rfl := os h
    exact Qdg.ret (fl := [false]) (by kernel_rfl)
   refine sk ?_
   obtain ⟨c7,c8,h⟩ := Qdj h
   refine rss hc none [oN,some (.el (I c7)),oN,oN] [(0,.ra 1000 0),(2,sL ctx2),(3,sI ty3),(4,I deep4),(6,.ra 1 0),(10,.ra 2 0),(14,I c7)] (ai (ix c8) tv) ?_
   refine sN ?_
   refine bk 2 ?_
   refine sN ?_
   obtain ⟨⟨c9,d0,d1,d2⟩,d3,h⟩ := Qdj h
   refine Wp.into (x := .normal) (mkS [(0,.ra 1000 0),(2,sL ctx2),(3,sI ty3),(4,I deep4),(6,.ra 1 0),(10,.ra 2 0),(14,I c7),(58,.bool d2)] [(1,K1g s1),(2,.box [I 0,I 0,.nils,.nils]),(1000,.box [.sl (List.map U8 c9),I d0,I d1])]) ?_ ?_
   ·replace h := d3
    rcases is h with ⟨d4,h⟩ | ⟨d4,h⟩
    ·rcases is h with ⟨d5,h⟩ | ⟨d5,h⟩
     ·obtain ⟨⟨d6,d7⟩,d8,h⟩ := Qdj h
      refine rg hc none [oN,oN,oN,oN,oN,oT,oN,oN,some (.call (.bool d6) [.optr [.sl (List.map U8 d7.fb),I d7.fi,I d7.fh],.undef] 1),oT,oN] [(0,.ra 1000 0),(2,sL ctx2),(3,sI ty3),(4,I deep4),(6,.ra 1 0),(10,.ra 2 0),(14,I c7),(58,.bool d6)] [(1,K1g s1),(2,.box [I 0,I 0,.nils,.nils]),(1000,K1e d7)] (ar 3 d4 (ar 2 d5 (ac (K8f _ _ d8) K2i d5 tv))) ?_
      obtain ⟨rfl,hq0⟩ := Prod.mk.inj (Option.some.inj h)
      obtain ⟨rfl,hq1⟩ := Prod.mk.inj (hq0)
      obtain ⟨rfl,rfl⟩ := Prod.mk.inj (hq1)
      exact Qd5.mk
     refine rgs hc none [oN,oN,oN,oN,oN,oT,oN,o_,o_,oF,oN] [(0,.ra 1000 0),(2,sL ctx2),(3,sI ty3),(4,I deep4),(6,.ra 1 0),(10,.ra 2 0),(14,I c7),(58,.bool false)] (ar 3 d4 (ar 2 (neT d5) (ai d5 tv))) ?_
     obtain ⟨rfl,hq0⟩ := Prod.mk.inj (Option.some.inj h)
     obtain ⟨rfl,hq1⟩ := Prod.mk.inj (hq0)
     obtain ⟨rfl,rfl⟩ := Prod.mk.inj (hq1)
     exact Qd5.mk
    refine rgs hc none [oN,oN,oN,o_,o_,oF,oN,o_,o_,oF,oN] [(0,.ra 1000 0),(2,sL ctx2),(3,sI ty3),(4,I deep4),(6,.ra 1 0),(10,.ra 2 0),(14,I c7),(58,.bool false)] (ar 2 (neT d4) (ai d4 (ar 2 (neT (rfl : false = false)) (ai (rfl : false = false) tv)))) ?_
    obtain ⟨rfl,hq0⟩ := Prod.mk.inj (Option.some.inj h)
    obtain ⟨rfl,hq1⟩ := Prod.mk.inj (hq0)
    obtain ⟨rfl,rfl⟩ := Prod.mk.inj (hq1)
    exact Qd5.mk
   clear d3
   refine ic h (fun d9 h => ?_) fun d9 h => ?_
   ·obtain ⟨⟨e0,e1⟩,e2,h⟩ := Qdj h
    obtain ⟨⟨e3,e4⟩,e5,h⟩ := Qdj h
    obtain ⟨e6,e7,h⟩ := Qdj h
    refine rs hc (rx [[0],[0],[0],[0],[0],[0,4],[6],[0],[0],[0],[0],[0],[0,11],[13],[14],[15],[16]]) [oN,oN,oN,oN,oN,oN,some (.call (K1d e0) [.optr [.sl (List.map U8 e1.fb),I e1.fi,I e1.fh],.undef,.undef,.undef,.undef] 1),oN,oN,oN,oN,oN,oN,some (.call (K1d e3) [.optr [.sl (List.map U8 e4.fb),I e4.fi,I e4.fh],.undef,.undef,.undef,.undef] 1),some (.eqv (.mk 3 false) ⟨[(83,.rs 3)],[(3,some (.arr (List.map K05 [e0,e3])))],[3]⟩),some (.call (K1d e6) [.tup []] 1),oN] [(10,.ra 2 0)] [(2,K1c e6),(1000,K1e e4)] (ad (spec_dOf_ih _ _ e2) K3y (spec_dOf_ih _ _ e5) K3y (ac (congrArg (fun z => (⟨[(83,.rs 3)],[(3,some (.arr z))],[3]⟩ : Wr)) ((Qeq (K0c e0) (Qeq (K0c e3) Qep)) : [K1d e0,K1d e3] = List.map K05 [e0,e3])) (Q75.args (A1 := [I 2,I 0,.sl (Q02 (List.map K05 [e0,e3]))]) (A2 := [I 2,I 0,.sl (List.map K05 [e0,e3])]) (by simp only [List.map_nil,K0z]) (Kcf _ _ e7)) K3u tv)) ?_
    refine rt ?_
    obtain rfl := os h
    exact Qdg.ret (fl := [false]) (by kernel_rfl)
   refine K7p hc 3 [(0,.ra 1000 0),(2,sL ctx2),(3,sI ty3),(4,I deep4),(6,.ra 1 0),(10,.ra 2 0),(14,I c7),(85,.bool (c7 == 0))] ?_
   refine ic h (fun e8 h => ?_) fun e8 h => ?_
   ·obtain ⟨⟨e9,f0⟩,f1,h⟩ := Qdj h
    obtain ⟨f2,f3,h⟩ := Qdj h
    refine rs hc none [oN,some (.call (I e9) [.optr [.sl (List.map U8 f0.fb),I f0.fi,I f0.fh],.undef] 1),oc (K1d f2),oN] [(10,.ra 2 0)] [(2,K1c f2),(1000,K1e f0)] (ab (K8c _ _ f1) K2h (cq (Q75.args (A1 := [I 1,I e9,.sl []]) (A2 := [I 1,I e9,.sl (List.map K05 [])]) (by simp only [List.map_nil]) (Kcf _ _ f3)) K3u tv)) ?_
    refine rt ?_
    obtain rfl := os h
    exact Qdg.ret (fl := [false]) (by kernel_rfl)
   refine K7p hc 3 [(0,.ra 1000 0),(2,sL ctx2),(3,sI ty3),(4,I deep4),(6,.ra 1 0),(10,.ra 2 0),(14,I c7),(91,.bool (c7 == 1))] ?_
   refine ic h (fun f4 h => ?_) fun f4 h => ?_
   ·obtain ⟨f5,f6,⟨f7,f8⟩,f9,h⟩ := bq2 h
    obtain ⟨g0,g1,⟨g2,g3⟩,g4,h⟩ := bq2 h
    obtain ⟨g5,g6,h⟩ := Qdj h
    refine rs hc (rx [[0],[0],[0],[0],[0,3],[0],[0,5],[7],[0],[0],[0],[0],[8,11],[0],[0,13],[15],[16],[17],[18]]) [oN,oN,oN,oN,oc (sI f5),oN,oN,some (.call (K1d f7) [.optr [.sl (List.map U8 f8.fb),I f8.fi,I f8.fh],.undef,.undef,.undef,.undef] 1),oN,oN,oN,oN,oc (sI g0),oN,oN,some (.call (K1d g2) [.optr [.sl (List.map U8 g3.fb),I g3.fi,I g3.fh],.undef,.undef,.undef,.undef] 1),some (.eqv (.mk 6 false) ⟨[(110,.rs 6)],[(6,some (.arr (List.map K05 [f7,g2])))],[6]⟩),some (.call (K1d g5) [.tup []] 1),oN] [(10,.ra 2 0)] [(2,K1c g5),(1000,K1e g3)] (cq (Q75.res (r2 := sI f5) (by simp only [share,Q02,Qeb]) (Q75.shr (Kd1 _ _ f6))) K4a (ab (spec_dOf_ih _ _ f9) K3y (cq (Q75.res (r2 := sI g0) (by simp only [share,Q02,Qeb]) (Q75.shr (Kd1 _ _ g1))) K4a (ad (spec_dOf_ih _ _ g4) K3y (congrArg (fun z => (⟨[(110,.rs 6)],[(6,some (.arr z))],[6]⟩ : Wr)) ((Qeq (K0c f7) (Qeq (K0c g2) Qep)) : [K1d f7,K1d g2] = List.map K05 [f7,g2])) (Q75.args (A1 := [I 4,I 0,.sl (Q02 (List.map K05 [f7,g2]))]) (A2 := [I 4,I 0,.sl (List.map K05 [f7,g2])]) (by simp only [List.map_nil,K0z]) (Kcf _ _ g6)) (ai K3u tv))))) ?_
    refine rt ?_
    obtain rfl := os h
    exact Qdg.ret (fl := [false]) (by kernel_rfl)
   refine sN ?_
   obtain ⟨⟨g7,g8,g9,i0⟩,i1,h⟩ := Qdj h
   refine Wp.into (x := .normal) (mkS [(0,.ra 1000 0),(2,sL ctx2),(3,sI ty3),(4,I deep4),(6,.ra 1 0),(10,.ra 2 0),(14,I c7),(112,.bool i0)] [(1,K1g s1),(2,.box [I 0,I 0,.nils,.nils]),(1000,.box [.sl (List.map U8 g7),I g8,I g9])]) ?_ ?_
   ·replace h := i1
    rcases is h with ⟨i2,h⟩ | ⟨i2,h⟩
    ·obtain ⟨⟨i3,i4⟩,i5,h⟩ := Qdj h
     refine rg hc none [oN,oN,oN,oN,some (.call (.bool i3) [.optr [.sl (List.map U8 i4.fb),I i4.fi,I i4.fh],.undef] 1),oT,oN] [(0,.ra 1000 0),(2,sL ctx2),(3,sI ty3),(4,I deep4),(6,.ra 1 0),(10,.ra 2 0),(14,I c7),(112,.bool i3)] [(1,K1g s1),(2,.box [I 0,I 0,.nils,.nils]),(1000,K1e i4)] (ar 2 i2 (ac (K8f _ _ i5) K2i i2 tv)) ?_
     obtain ⟨rfl,hq0⟩ := Prod.mk.inj (Option.some.inj h)
     obtain ⟨rfl,hq1⟩ := Prod.mk.inj (hq0)
     obtain ⟨rfl,rfl⟩ := Prod.mk.inj (hq1)
     exact Qd5.mk
    refine rgs hc none [oN,oN,oN,o_,o_,oF,oN] [(0,.ra 1000 0),(2,sL ctx2),(3,sI ty3),(4,I deep4),(6,.ra 1 0),(10,.ra 2 0),(14,I c7),(112,.bool false)] (ar 2 (neT i2) (ai i2 tv)) ?_
    obtain ⟨rfl,hq0⟩ := Prod.mk.inj (Option.some.inj h)
    obtain ⟨rfl,hq1⟩ := Prod.mk.inj (hq0)
    obtain ⟨rfl,rfl⟩ := Prod.mk.inj (hq1)
    exact Qd5.mk
   clear i1
   refine ic h (fun i6 h => ?_) fun i6 h => ?_
   ·obtain ⟨i7,i8,i9,j0,⟨j8,j9⟩,k0,h⟩ := bq3 h
    refine rs hc Kf6 [oN,some (.call (oI i7) [] 9),oN,oN,oN,oN,oc (sI i9),oN,oN,some (.call (K1d j8) [.optr [.sl (List.map U8 j9.fb),I j9.fi,I j9.fh],.undef,.undef,.undef,.undef] 1),some (.eqv (.mk 10 false) ⟨[(129,.rs 10)],[(10,some (.arr (List.map K05 [j8])))],[10]⟩),oN,oN] [(10,.ra 2 0)] [(2,.box [I 6,I 0,.rs 9,.rs 10]),(9,rI i7),(10,.arr (List.map K05 [j8])),(1000,K1e j9)] (cq (Kd1 _ _ i8) K4a (cq (Q75.res (r2 := sI i9) (by simp only [share,Q02,Qeb]) (Q75.shr (Kd1 _ _ j0))) K4a (ac (spec_dOf_ih _ _ k0) K3y (congrArg (fun z => (⟨[(129,.rs 10)],[(10,some (.arr z))],[10]⟩ : Wr)) ((Qeq (K0c j8) Qep) : [K1d j8] = List.map K05 [j8])) tv))) ?_
    refine vz 9 (Qeb i7) [(10,.ra 2 0)] [(2,.box [I 6,I 0,sI i7,.rs 10]),(10,.arr (List.map K05 [j8])),(1000,K1e j9)] ?_
    refine vz 10 (K0z [j8]) [(10,.ra 2 0)] [(2,.box [I 6,I 0,sI i7,.sl (List.map K05 [j8])]),(1000,K1e j9)] ?_
    refine rt ?_
    obtain rfl := os h
    exact Qdg.ret (fl := [false]) (by kernel_rfl)
   refine K7p hc 3 [(0,.ra 1000 0),(2,sL ctx2),(3,sI ty3),(4,I deep4),(6,.ra 1 0),(10,.ra 2 0),(14,I c7),(131,.bool (c7 == 2))] ?_
   refine ic h (fun k1 h => ?_) fun k1 h => ?_
   ·obtain ⟨k2,k3,k4,k5,⟨k6,k7⟩,k8,h⟩ := bq3 h
    refine rs hc Kf6 [oN,some (.call (oI k2) [] 13),oN,oN,oN,oN,oc (sI k4),oN,oN,some (.call (K1d k6) [.optr [.sl (List.map U8 k7.fb),I k7.fi,I k7.fh],.undef,.undef,.undef,.undef] 1),some (.eqv (.mk 14 false) ⟨[(144,.rs 14)],[(14,some (.arr (List.map K05 [k6])))],[14]⟩),oN,oN] [(10,.ra 2 0)] [(2,.box [I 7,I 0,.rs 13,.rs 14]),(13,rI k2),(14,.arr (List.map K05 [k6])),(1000,K1e k7)] (cq (Kd1 _ _ k3) K4a (cq (Q75.res (r2 := sI k4) (by simp only [share,Q02,Qeb]) (Q75.shr (Kd1 _ _ k5))) K4a (ac (spec_dOf_ih _ _ k8) K3y (congrArg (fun z => (⟨[(144,.rs 14)],[(14,some (.arr z))],[14]⟩ : Wr)) ((Qeq (K0c k6) Qep) : [K1d k6] = List.map K05 [k6])) tv))) ?_
    refine vz 13 (Qeb k2) [(10,.ra 2 0)] [(2,.box [I 7,I 0,sI k2,.rs 14]),(14,.arr (List.map K05 [k6])),(1000,K1e k7)] ?_
    refine vz 14 (K0z [k6]) [(10,.ra 2 0)] [(2,.box [I 7,I 0,sI k2,.sl (List.map K05 [k6])]),(1000,K1e k7)] ?_
    refine rt ?_
    obtain rfl := os h
    exact Qdg.ret (fl := [false]) (by kernel_rfl)
   obtain ⟨k9,l0,h⟩ := Qdj h
   refine rss hc none [oN,oc (.bool k9),oN] [(0,.ra 1000 0),(2,sL ctx2),(3,sI ty3),(4,I deep4),(6,.ra 1 0),(10,.ra 2 0),(14,I c7),(146,.bool k9)] (cq (Kcl _ _ l0) K42 tv) ?_
   refine ic h (fun l1 h => ?_) fun l1 h => ?_
   ·obtain ⟨l2,l3,l4,l5,⟨l6,l7⟩,l8,h⟩ := bq3 h
    obtain ⟨l9,m0,h⟩ := Qdj h
    refine rs hc Kf6 [oN,oc (I l2),oN,oN,oN,oN,oc (sI l4),oN,oN,some (.call (K1d l6) [.optr [.sl (List.map U8 l7.fb),I l7.fi,I l7.fh],.undef,.undef,.undef,.undef] 1),some (.eqv (.mk 16 false) ⟨[(159,.rs 16)],[(16,some (.arr (List.map K05 [l6])))],[16]⟩),some (.call (K1d l9) [.tup []] 1),oN] [(10,.ra 2 0)] [(2,K1c l9),(1000,K1e l7)] (cq (Kd4 _ _ l3) K4c (cq (Q75.res (r2 := sI l4) (by simp only [share,Q02,Qeb]) (Q75.shr (Kd1 _ _ l5))) K4a (ad (spec_dOf_ih _ _ l8) K3y (congrArg (fun z => (⟨[(159,.rs 16)],[(16,some (.arr z))],[16]⟩ : Wr)) ((Qeq (K0c l6) Qep) : [K1d l6] = List.map K05 [l6])) (Q75.args (A1 := [I 11,I l2,.sl (Q02 (List.map K05 [l6]))]) (A2 := [I 11,I l2,.sl (List.map K05 [l6])]) (by simp only [List.map_nil,K0z]) (Kcf _ _ m0)) (ai K3u tv)))) ?_
    refine rt ?_
    obtain rfl := os h
    exact Qdg.ret (fl := [false]) (by kernel_rfl)
   refine sk ?_
   obtain ⟨⟨m1,m2⟩,m3,h⟩ := Qdj h
   refine rs hc none [oN,oN,oN,oN,oN,some (.call (K1d m1) [.optr [.sl (List.map U8 m2.fb),I m2.fi,I m2.fh],.undef,.undef,.undef,.undef] 1),oN] [(10,.ra 2 0)] [(2,K1c m1),(1000,K1e m2)] (ab (spec_dFun_ih _ _ m3) K4e tv) ?_
   refine rt ?_
   obtain rfl := os h
   exact Qdg.ret (fl := [false]) (by kernel_rfl)
  refine Wp.mono hF ?_
  rintro _ _ ⟨rfl,hfin⟩
  obtain rfl := os h
  exact ⟨.inl rfl,hfin⟩
 ·rintro spec_dOf_f spec_dFun_l0_f spec_dOf_ih spec_dFun_l0_ih ⟨c0,s1,ctx2,ty3,deep4⟩ r h
  refine Q75.bodyO K28 (fn := Tryz.f252) (code := K4d) (by kernel_rfl) (by kernel_rfl) (by kernel_rfl) (nt := 70) (by kernel_rfl) (by kernel_rfl) (T := [(0,.ra 1000 0),(1,K1h s1),(2,sL ctx2),(3,sI ty3),(4,I deep4)]) (O := [(1000,K1e c0)]) (by kernel_rfl) (by kernel_rfl) (fun c hc => ?_)
  refine rs hc none [some (.new 1),some (.new 2)] [(0,.ra 1000 0),(2,sL ctx2),(3,sI ty3),(4,I deep4),(6,.ra 1 0),(10,.ra 2 0)] [(1,K1g s1),(2,.box [I 0,I 0,.nils,.nils]),(1000,K1e c0)] tv ?_
  obtain ⟨a0,a2,h⟩ := Qdj h
  refine rs hc none [oN,some (.call (oI a0) [] 3),oN] [(0,.ra 1000 0),(2,sL ctx2),(3,sI ty3),(4,I deep4),(6,.ra 1 0),(10,.ra 2 0),(11,.rs 3)] [(1,K1g s1),(2,.box [I 0,I 0,.nils,.nils]),(3,rI a0),(1000,K1e c0)] (cq (Kd1 _ _ a2) K4a tv) ?_
  obtain ⟨m4,m5,h⟩ := Qdj h
  refine rs hc none [oN,some (.call (oI m4) [] 4),oN] [(0,.ra 1000 0),(2,sL ctx2),(3,sI ty3),(4,I deep4),(6,.ra 1 0),(10,.ra 2 0),(11,.rs 3),(12,.rs 4)] [(1,K1g s1),(2,.box [I 0,I 0,.nils,.nils]),(3,rI a0),(4,rI m4),(1000,K1e c0)] (cq (Kd1 _ _ m5) K4a tv) ?_
  obtain ⟨m6,m7,m8,m9,h⟩ := bq2 h
  refine rss hc none [oN,some (.el (I m6)),oN,oc (I m8),oN] [(0,.ra 1000 0),(2,sL ctx2),(4,I deep4),(6,.ra 1 0),(10,.ra 2 0),(11,.rs 3),(12,.rs 4),(13,I m8)] (ai (ix m7) (cq (Kd4 _ _ m9) K4c tv)) ?_
  refine sN ?_
  refine vz 3 (Qeb a0) [(0,.ra 1000 0),(2,sL ctx2),(4,I deep4),(6,.ra 1 0),(10,.ra 2 0),(11,sI a0),(12,.rs 4),(13,I m8)] [(1,K1g s1),(2,.box [I 0,I 0,.nils,.nils]),(4,rI m4),(1000,K1e c0)] ?_
  obtain ⟨n0,n1,h⟩ := Qdj h
  refine rg hc none [oN,oN,some (.mk 6 false),some (.call (.osl (List.map K0q n0)) [.tup []] 7),oN] [(0,.ra 1000 0),(4,I deep4),(6,.ra 1 0),(10,.ra 2 0),(11,sI a0),(12,.rs 4),(13,I m8),(14,.rs 7)] [(1,K1g s1),(2,.box [I 0,I 0,.nils,.nils]),(4,rI m4),(7,.arr (List.map K0q n0)),(1000,K1e c0)] (ab (Q75.args (A1 := [sL ctx2,.sl (Q02 (List.map K0q [a0]))]) (A2 := [sL ctx2,.sl (List.map K0q [a0])]) (by simp only [List.map_nil,K0u]) (Kd7 _ _ n1)) K4g tv) ?_
  refine sN ?_
  refine vz 7 (K0u n0) [(0,.ra 1000 0),(4,I deep4),(6,.ra 1 0),(10,.ra 2 0),(11,sI a0),(12,.rs 4),(13,I m8),(14,sL n0)] [(1,K1g s1),(2,.box [I 0,I 0,.nils,.nils]),(4,rI m4),(1000,K1e c0)] ?_
  refine vz 4 (Qeb m4) [(0,.ra 1000 0),(4,I deep4),(6,.ra 1 0),(10,.ra 2 0),(11,sI a0),(12,sI m4),(13,I m8),(14,sL n0)] [(1,K1g s1),(2,.box [I 0,I 0,.nils,.nils]),(1000,K1e c0)] ?_
  obtain ⟨⟨n2,n3⟩,n4,h⟩ := Qdj h
  refine rg hc none [oN,oN,oN,oN,oN,oN,some (.call (K1d n2) [.optr [.sl (List.map U8 n3.fb),I n3.fi,I n3.fh],.undef,.undef,.undef,.undef] 1),some (.new 8),oN] [(0,.ra 1000 0),(4,I deep4),(6,.ra 1 0),(10,.ra 2 0),(11,sI a0),(12,sI m4),(13,I m8),(14,sL n0),(15,.ra 8 0)] [(1,K1g s1),(2,.box [I 0,I 0,.nils,.nils]),(8,K1c n2),(1000,K1e n3)] (ab (spec_dOf_ih _ _ n4) K3y tv) ?_
  refine sN ?_
  refine K7p hc 1 [(0,.ra 1000 0),(4,I deep4),(6,.ra 1 0),(10,.ra 2 0),(11,sI a0),(12,sI m4),(13,I m8),(14,sL n0),(15,.ra 8 0),(16,I 0)] ?_
  refine bk 0 ?_
  obtain ⟨⟨n5,n6,n7,n8,n9,o0,o1⟩,o2,h⟩ := Qdj h
  have hL := spec_dFun_l0_ih _ _ o2 c hc
  refine lp ?_
  refine WpL.into (e := (.exit 0)) (mkS [(10,.ra 2 0),(11,sI a0),(13,I m8),(15,.ra 8 0)] [(2,.box [I 0,I 0,.nils,.nils]),(8,.box [I n5,I n6,sI n7,.sl (List.map K05 n8)]),(1000,.box [.sl (List.map U8 n9),I o0,I o1])]) hL ?_
  refine Qcx ?_
  refine rs hc none [oN,oN,oN,some (.eqv (.mk 9 false) ⟨[(68,.rs 9)],[(9,some (.arr (List.map K05 [(K00.mk n5 n6 n7 n8)])))],[9]⟩),oN,oN] [(10,.ra 2 0)] [(2,.box [I 9,I m8,sI a0,.rs 9]),(9,.arr (List.map K05 [(K00.mk n5 n6 n7 n8)])),(1000,.box [.sl (List.map U8 n9),I o0,I o1])] (ai (congrArg (fun z => (⟨[(68,.rs 9)],[(9,some (.arr z))],[9]⟩ : Wr)) ((Qeq (K0c (K00.mk n5 n6 n7 n8)) Qep) : [AV.agg [I n5,I n6,sI n7,.sl (List.map K05 n8)]] = List.map K05 [(K00.mk n5 n6 n7 n8)])) tv) ?_
  refine vz 9 (K0z [(K00.mk n5 n6 n7 n8)]) [(10,.ra 2 0)] [(2,.box [I 9,I m8,sI a0,.sl (List.map K05 [(K00.mk n5 n6 n7 n8)])]),(1000,.box [.sl (List.map U8 n9),I o0,I o1])] ?_
  refine rt ?_
  obtain rfl := os h
  exact Qdg.ret (fl := [false]) (by kernel_rfl)
 ·rintro spec_dOf_f spec_dFun_l0_f spec_dOf_ih spec_dFun_l0_ih ⟨s1,deep4,a0,m4,m8,n0,b2,o3,b3,o4,o5,o6,o7,o8⟩ r h
  intro c hc
  refine WpL.step ?_
  refine sN ?_
  refine sN ?_
  obtain ⟨o9,p0,h⟩ := Qdj h
  refine Wp.into (x := .normal) (mkS [(0,.ra 1000 0),(4,I deep4),(6,.ra 1 0),(10,.ra 2 0),(11,sI a0),(12,sI m4),(13,I m8),(14,sL n0),(15,.ra 8 0),(16,I o8),(47,.bool o9)] [(1,K1g s1),(2,.box [I 0,I 0,.nils,.nils]),(8,.box [I o4,I o5,sI o6,.sl (List.map K05 o7)]),(1000,.box [.sl (List.map U8 b2),I o3,I b3])]) ?_ ?_
  ·replace h := p0
   rcases is h with ⟨p3,h⟩ | ⟨p3,h⟩
   ·obtain ⟨p4,p5,p6,p7,h⟩ := bq2 h
    refine rgs hc Kf7 [oN,oN,oN,oN,oN,oN,oN,oc (I p4),oN,oc (.bool p6),oN,oT] [(0,.ra 1000 0),(4,I deep4),(6,.ra 1 0),(10,.ra 2 0),(11,sI a0),(12,sI m4),(13,I m8),(14,sL n0),(15,.ra 8 0),(16,I o8),(47,.bool (!p6))] (ar 5 p3 (cq (Keg _ _ p5) K50 (ar 2 p3 (cq (K9x _ _ p7) K31 (ar 2 p3 tv))))) ?_
    obtain rfl := os h
    exact Qd5.mk
   refine rgs hc Kf7 [oN,oN,oN,o_,o_,o_,o_,o_,o_,o_,o_,oF] [(0,.ra 1000 0),(4,I deep4),(6,.ra 1 0),(10,.ra 2 0),(11,sI a0),(12,sI m4),(13,I m8),(14,sL n0),(15,.ra 8 0),(16,I o8),(47,.bool false)] (ar 8 (neT p3) (ai p3 tv)) ?_
   obtain rfl := os h
   exact Qd5.mk
  clear p0
  refine ic h (fun p8 h => ?_) fun p8 h => ?_
  ·refine sk ?_
   refine sN ?_
   refine bk 1 ?_
   obtain ⟨⟨p9,q0⟩,q1,h⟩ := Qdj h
   refine rs hc none [oN,oN,oN,oN,oN,oN,some (.call (K1d p9) [.optr [.sl (List.map U8 q0.fb),I q0.fi,I q0.fh],.undef,.undef,.undef,.undef] 1),oN] [(0,.ra 1000 0),(4,I deep4),(6,.ra 1 0),(10,.ra 2 0),(11,sI a0),(12,sI m4),(13,I m8),(14,sL n0),(15,.ra 8 0),(16,I o8)] [(1,K1g s1),(2,.box [I 0,I 0,.nils,.nils]),(8,K1c p9),(1000,K1e q0)] (ab (spec_dOf_ih _ _ q1) K3y tv) ?_
   refine sN ?_
   obtain ⟨d2,d3,h⟩ := Qdj h
   refine Wp.into (x := .normal) (mkS [(0,.ra 1000 0),(4,I deep4),(6,.ra 1 0),(10,.ra 2 0),(11,sI a0),(12,sI m4),(13,I m8),(14,sL n0),(15,.ra 8 0),(16,I o8),(63,.bool d2)] [(1,K1g s1),(2,.box [I 0,I 0,.nils,.nils]),(8,K1c p9),(1000,K1e q0)]) ?_ ?_
   ·replace h := d3
    rcases is h with ⟨q2,h⟩ | ⟨q2,h⟩
    ·obtain ⟨q3,q4,h⟩ := Qdj h
     refine rgs hc none [oN,oN,oN,oN,oN,oc (.bool q3),oT] [(0,.ra 1000 0),(4,I deep4),(6,.ra 1 0),(10,.ra 2 0),(11,sI a0),(12,sI m4),(13,I m8),(14,sL n0),(15,.ra 8 0),(16,I o8),(63,.bool q3)] (ar 3 q2 (cq (Kcc _ _ q4) K3s (ai q2 tv))) ?_
     obtain rfl := os h
     exact Qd5.mk
    refine rgs hc none [oN,oN,oN,o_,o_,o_,oF] [(0,.ra 1000 0),(4,I deep4),(6,.ra 1 0),(10,.ra 2 0),(11,sI a0),(12,sI m4),(13,I m8),(14,sL n0),(15,.ra 8 0),(16,I o8),(63,.bool false)] (ar 3 (neT q2) (ai q2 tv)) ?_
    obtain rfl := os h
    exact Qd5.mk
   clear d3
   obtain ⟨⟨q5,q6,q7,q8⟩,q9,h⟩ := Qdj h
   refine Wp.into (x := .normal) (mkS [(0,.ra 1000 0),(4,I deep4),(6,.ra 1 0),(10,.ra 2 0),(11,sI a0),(12,sI m4),(13,I m8),(14,sL n0),(15,.ra 8 0),(16,I o8)] [(1,K1g s1),(2,.box [I 0,I 0,.nils,.nils]),(8,.box [I q5,I q6,sI q7,.sl (List.map K05 q8)]),(1000,K1e q0)]) ?_ ?_
   ·replace h := q9
    refine ic h (fun d9 h => ?_) fun d9 h => ?_
    ·obtain ⟨r0,r1,h⟩ := Qdj h
     refine rg hc none [oc (K1d r0),oN] [(0,.ra 1000 0),(4,I deep4),(6,.ra 1 0),(10,.ra 2 0),(11,sI a0),(12,sI m4),(13,I m8),(14,sL n0),(15,.ra 8 0),(16,I o8)] [(1,K1g s1),(2,.box [I 0,I 0,.nils,.nils]),(8,K1c r0),(1000,K1e q0)] (cq (Q75.args (A1 := [I 0,I 0,.sl []]) (A2 := [I 0,I 0,.sl (List.map K05 [])]) (by simp only [List.map_nil]) (Kcf _ _ r1)) K3u tv) ?_
     obtain ⟨rfl,hq0⟩ := Prod.mk.inj (Option.some.inj h)
     obtain ⟨rfl,hq1⟩ := Prod.mk.inj (hq0)
     obtain ⟨rfl,rfl⟩ := Prod.mk.inj (hq1)
     exact Qd5.mk
    refine sk ?_
    obtain ⟨rfl,hq0⟩ := Prod.mk.inj (Option.some.inj h)
    obtain ⟨rfl,hq1⟩ := Prod.mk.inj (hq0)
    obtain ⟨rfl,rfl⟩ := Prod.mk.inj (hq1)
    exact iv []
   clear q9
   refine K7o hc 3 [(0,.ra 1000 0),(4,I deep4),(6,.ra 1 0),(10,.ra 2 0),(11,sI a0),(12,sI m4),(13,I m8),(14,sL n0),(15,.ra 8 0),(16,I (wr (o8 + 1)))] ?_
   refine Qd1 ?_
   exact (spec_dFun_l0_ih _ _ h c hc)
  refine xt 0 ?_
  refine Qcv ?_
  refine Qd2 ?_
  obtain ⟨rfl,hq0⟩ := Prod.mk.inj (Option.some.inj h)
  obtain ⟨rfl,hq1⟩ := Prod.mk.inj (hq0)
  obtain ⟨rfl,hq2⟩ := Prod.mk.inj (hq1)
  obtain ⟨rfl,hq3⟩ := Prod.mk.inj (hq2)
  obtain ⟨rfl,hq4⟩ := Prod.mk.inj (hq3)
  obtain ⟨rfl,rfl⟩ := Prod.mk.inj (hq4)
  exact iv []
 ·rintro spec_dOf_f spec_dOf_ih ⟨c0,s1,ctx2,ty3,deep4⟩ r h
  refine Q75.bodyO K28 (fn := Tryz.f251) (code := K3v) (by kernel_rfl) (by kernel_rfl) (by kernel_rfl) (nt := 269) (by kernel_rfl) (by kernel_rfl) (T := [(0,.ra 1000 0),(1,K1h s1),(2,sL ctx2),(3,sI ty3),(4,I deep4)]) (O := [(1000,K1e c0)]) (by kernel_rfl) (by kernel_rfl) (fun c hc => ?_)
  refine rs hc none [some (.new 1),some (.new 2)] [(0,.ra 1000 0),(2,sL ctx2),(3,sI ty3),(4,I deep4),(6,.ra 1 0),(10,.ra 2 0)] [(1,K1g s1),(2,.box [I 0,I 0,.nils,.nils]),(1000,K1e c0)] tv ?_
  refine rs hc none [some (.mk 3 true),oN] [(0,.ra 1000 0),(2,sL ctx2),(3,sI ty3),(4,I deep4),(6,.ra 1 0),(10,.ra 2 0),(11,.rs 3)] [(1,K1g s1),(2,.box [I 0,I 0,.nils,.nils]),(3,.arr (List.map I [0])),(1000,K1e c0)] tv ?_
  refine sN ?_
  obtain ⟨⟨m4,r3⟩,m5,h⟩ := Qdj h
  refine rs hc none [oN,some (.call (I m4) [.optr [.sl (List.map U8 r3.fb),I r3.fi,I r3.fh],.undef] 1)] [(0,.ra 1000 0),(2,sL ctx2),(3,sI ty3),(4,I deep4),(6,.ra 1 0),(10,.ra 2 0),(11,.rs 3),(37,I m4)] [(1,K1g s1),(2,.box [I 0,I 0,.nils,.nils]),(3,.arr (List.map I [0])),(1000,K1e r3)] (ab (K8c _ _ m5) K2h tv) ?_
  refine bk 0 ?_
  refine K7p hc 2 [(0,.ra 1000 0),(2,sL ctx2),(3,sI ty3),(4,I deep4),(6,.ra 1 0),(10,.ra 2 0),(11,.rs 3),(37,I m4),(38,.bool (m4 == 0))] ?_
  refine ic h (fun a4 h => ?_) fun a4 h => ?_
  ·refine sN ?_
   refine vz 3 (Qeb [0]) [(0,.ra 1000 0),(2,sL ctx2),(3,sI ty3),(4,I deep4),(6,.ra 1 0),(10,.ra 2 0),(11,.sl (List.map I [0])),(37,I m4),(38,.bool (m4 == 0))] [(1,K1g s1),(2,.box [I 0,I 0,.nils,.nils]),(1000,K1e r3)] ?_
   obtain ⟨⟨r4,r5⟩,r6,h⟩ := Qdj h
   obtain ⟨⟨r7,r8⟩,r9,h⟩ := Qdj h
   obtain ⟨⟨s0,s2⟩,s3,h⟩ := Qdj h
   obtain ⟨s4,s5,h⟩ := Qdj h
   refine rg hc (rh [0,0,0,0,0,5,0,0,0,0,0,11,0,0,0,0,0,17,18,19,20]) [oN,oN,oN,oN,oN,some (.call (K1d r4) [.optr [.sl (List.map U8 r5.fb),I r5.fi,I r5.fh],.undef,.undef,.undef,.undef] 1),oN,oN,oN,oN,oN,some (.call (K1d r7) [.optr [.sl (List.map U8 r8.fb),I r8.fi,I r8.fh],.undef,.undef,.undef,.undef] 1),oN,oN,oN,oN,oN,some (.call (K1d s0) [.optr [.sl (List.map U8 s2.fb),I s2.fi,I s2.fh],.undef,.undef,.undef,.undef] 1),some (.eqv (.mk 4 false) ⟨[(58,.rs 4)],[(4,some (.arr (List.map K05 [r4,r7,s0])))],[4]⟩),some (.call (K1d s4) [.tup []] 1),oN] [(10,.ra 2 0)] [(2,K1c s4),(1000,K1e s2)] (ad (spec_dOf_ih _ _ r6) K3y (spec_dOf_ih _ _ r9) K3y (ad (spec_dOf_ih _ _ s3) K3y (congrArg (fun z => (⟨[(58,.rs 4)],[(4,some (.arr z))],[4]⟩ : Wr)) ((Qeq (K0c r4) (Qeq (K0c r7) (Qeq (K0c s0) Qep))) : [K1d r4,K1d r7,K1d s0] = List.map K05 [r4,r7,s0])) (Q75.args (A1 := [I 3,I 0,.sl (Q02 (List.map K05 [r4,r7,s0]))]) (A2 := [I 3,I 0,.sl (List.map K05 [r4,r7,s0])]) (by simp only [List.map_nil,K0z]) (Kcf _ _ s5)) (ai K3u tv))) ?_
   refine rt ?_
   obtain rfl := os h
   exact Qdg.ret (fl := [false]) (by kernel_rfl)
  refine rs0 hc 2 [(0,.ra 1000 0),(2,sL ctx2),(3,sI ty3),(4,I deep4),(6,.ra 1 0),(10,.ra 2 0),(37,I m4),(60,.bool (m4 == 1))] [(1,K1g s1),(2,.box [I 0,I 0,.nils,.nils]),(1000,K1e r3)] ?_
  refine ic h (fun s6 h => ?_) fun s6 h => ?_
  ·obtain ⟨⟨s7,s8⟩,s9,h⟩ := Qdj h
   obtain ⟨⟨t0,t1⟩,t2,h⟩ := Qdj h
   refine rs hc Kf8 [oN,oN,oN,some (.call (.bool s7) [.optr [.sl (List.map U8 s8.fb),I s8.fi,I s8.fh],.undef] 1),some (.call (oI t0) [.optr [.sl (List.map U8 t1.fb),I t1.fi,I t1.fh],.undef,.undef,.undef] 5),oN] [(0,.ra 1000 0),(2,sL ctx2),(3,sI ty3),(4,I deep4),(6,.ra 1 0),(10,.ra 2 0),(12,.rs 5)] [(1,K1g s1),(2,.box [I 0,I 0,.nils,.nils]),(5,rI t0),(1000,K1e t1)] (ad (K8f _ _ s9) K2i (Kby _ _ t2) K3m tv) ?_
   obtain ⟨⟨t3,t4⟩,t5,h⟩ := Qdj h
   refine rs hc none [oN,oN,some (.call (oI t3) [.optr [.sl (List.map U8 t4.fb),I t4.fi,I t4.fh],.undef,.undef,.undef] 6),oN] [(0,.ra 1000 0),(2,sL ctx2),(3,sI ty3),(4,I deep4),(6,.ra 1 0),(10,.ra 2 0),(12,.rs 5),(13,.rs 6)] [(1,K1g s1),(2,.box [I 0,I 0,.nils,.nils]),(5,rI t0),(6,rI t3),(1000,K1e t4)] (ab (Kby _ _ t5) K3m tv) ?_
   refine sN ?_
   refine vz 6 (Qeb t3) [(0,.ra 1000 0),(2,sL ctx2),(3,sI ty3),(4,I deep4),(6,.ra 1 0),(10,.ra 2 0),(12,.rs 5),(13,sI t3)] [(1,K1g s1),(2,.box [I 0,I 0,.nils,.nils]),(5,rI t0),(1000,K1e t4)] ?_
   refine vz 5 (Qeb t0) [(0,.ra 1000 0),(2,sL ctx2),(3,sI ty3),(4,I deep4),(6,.ra 1 0),(10,.ra 2 0),(12,sI t0),(13,sI t3)] [(1,K1g s1),(2,.box [I 0,I 0,.nils,.nils]),(1000,K1e t4)] ?_
   obtain ⟨t6,t7,h⟩ := Qdj h
   refine rg hc none [oN,oN,oN,some (.mk 9 false),some (.call (.osl (List.map K0q t6)) [.tup []] 10),oN] [(0,.ra 1000 0),(2,sL ctx2),(3,sI ty3),(4,I deep4),(6,.ra 1 0),(10,.ra 2 0),(12,sI t0),(13,sI t3),(14,.rs 10)] [(1,K1g s1),(2,.box [I 0,I 0,.nils,.nils]),(10,.arr (List.map K0q t6)),(1000,K1e t4)] (ab (Q75.args (A1 := [sL ctx2,.sl (Q02 (List.map K0q [t3,t0]))]) (A2 := [sL ctx2,.sl (List.map K0q [t3,t0])]) (by simp only [List.map_nil,K0u]) (Kd7 _ _ t7)) K4g tv) ?_
   refine sN ?_
   refine vz 10 (K0u t6) [(0,.ra 1000 0),(2,sL ctx2),(3,sI ty3),(4,I deep4),(6,.ra 1 0),(10,.ra 2 0),(12,sI t0),(13,sI t3),(14,sL t6)] [(1,K1g s1),(2,.box [I 0,I 0,.nils,.nils]),(1000,K1e t4)] ?_
   obtain ⟨⟨t8,t9⟩,u0,h⟩ := Qdj h
   refine rg hc none [oN,oN,oN,oN,oN,some (.call (K1d t8) [.optr [.sl (List.map U8 t9.fb),I t9.fi,I t9.fh],.undef,.undef,.undef,.undef] 1),some (.new 11),oN] [(0,.ra 1000 0),(2,sL ctx2),(4,I deep4),(6,.ra 1 0),(10,.ra 2 0),(12,sI t0),(13,sI t3),(14,sL t6),(15,.ra 11 0)] [(1,K1g s1),(2,.box [I 0,I 0,.nils,.nils]),(11,K1c t8),(1000,K1e t9)] (ab (spec_dOf_ih _ _ u0) K3y tv) ?_
   obtain ⟨q3,q4,u1,u2,u3,u4,u5,u6,h⟩ := bq4 h
   refine rss hc Kf9 [oN,oN,oN,oN,oN,oc (I q3),oN,oN,oN,oc (I u1),oc (I u3),oc (I u5),oN] [(0,.ra 1000 0),(2,sL ctx2),(4,I deep4),(6,.ra 1 0),(10,.ra 2 0),(12,sI t0),(13,sI t3),(15,.ra 11 0),(16,I u5)] (cq (Keg _ _ q4) K50 (cq (Keg _ _ u2) K50 (cq (Kab _ _ u4) K35 (cq (Kab _ _ u6) K35 tv)))) ?_
   obtain ⟨⟨u7,u8⟩,u9,h⟩ := Qdj h
   obtain ⟨v0,v1,⟨v2,v3⟩,v4,h⟩ := bq2 h
   obtain ⟨v5,v6,h⟩ := Qdj h
   refine rs hc (rx [[0],[0],[0],[3],[0],[0],[0],[0],[0],[0,7,8],[4,7,8,9],[0],[12],[0],[14],[15],[16]]) [oN,oN,oN,some (.call (I u7) [.optr [.sl (List.map U8 u8.fb),I u8.fi,I u8.fh],.undef,.undef] 1),oN,oN,oN,oN,oN,some (.mk 14 false),some (.call (sI v0) [.tup []] 1),oN,some (.call (K1d v2) [.optr [.sl (List.map U8 v3.fb),I v3.fi,I v3.fh],.undef,.undef,.undef,.undef] 1),oN,some (.eqv (.mk 15 false) ⟨[(107,.rs 15)],[(15,some (.arr (List.map K05 [v2,t8])))],[15]⟩),some (.call (K1d v5) [.tup []] 1),oN] [(10,.ra 2 0)] [(2,K1c v5),(1000,K1e v3)] (ad (Ken _ _ u9) K52 (Q75.args (A1 := [I 1,.sl (Q02 (List.map K0q [t0,t3]))]) (A2 := [I 1,.sl (List.map K0q [t0,t3])]) (by simp only [List.map_nil,K0u]) (Q75.res (r2 := sI v0) (by simp only [share,Q02,Qeb]) (Q75.shr (Kbv _ _ v1)))) K3o (ad (spec_dOf_ih _ _ v4) K3y (congrArg (fun z => (⟨[(107,.rs 15)],[(15,some (.arr z))],[15]⟩ : Wr)) ((Qeq (K0c v2) (Qeq (K0c t8) Qep)) : [K1d v2,K1d t8] = List.map K05 [v2,t8])) (Q75.args (A1 := [I 5,I u7,.sl (Q02 (List.map K05 [v2,t8]))]) (A2 := [I 5,I u7,.sl (List.map K05 [v2,t8])]) (by simp only [List.map_nil,K0z]) (Kcf _ _ v6)) (ai K3u tv))) ?_
   refine rt ?_
   obtain rfl := os h
   exact Qdg.ret (fl := [false]) (by kernel_rfl)
  refine K7p hc 2 [(0,.ra 1000 0),(2,sL ctx2),(3,sI ty3),(4,I deep4),(6,.ra 1 0),(10,.ra 2 0),(37,I m4),(109,.bool (m4 == 2))] ?_
  refine ic h (fun v7 h => ?_) fun v7 h => ?_
  ·obtain ⟨⟨v8,v9⟩,w0,h⟩ := Qdj h
   refine rs hc none [oN,oN,some (.call (oI v8) [.optr [.sl (List.map U8 v9.fb),I v9.fi,I v9.fh],.undef,.undef,.undef] 16),oN] [(0,.ra 1000 0),(2,sL ctx2),(3,sI ty3),(4,I deep4),(6,.ra 1 0),(10,.ra 2 0),(17,.rs 16)] [(1,K1g s1),(2,.box [I 0,I 0,.nils,.nils]),(16,rI v8),(1000,K1e v9)] (ab (Kby _ _ w0) K3m tv) ?_
   obtain ⟨⟨w1,w2⟩,w3,h⟩ := Qdj h
   refine rs hc none [oN,oN,some (.call (oI w1) [.optr [.sl (List.map U8 w2.fb),I w2.fi,I w2.fh],.undef,.undef,.undef] 17),oN] [(0,.ra 1000 0),(2,sL ctx2),(3,sI ty3),(4,I deep4),(6,.ra 1 0),(10,.ra 2 0),(17,.rs 16),(18,.rs 17)] [(1,K1g s1),(2,.box [I 0,I 0,.nils,.nils]),(16,rI v8),(17,rI w1),(1000,K1e w2)] (ab (Kby _ _ w3) K3m tv) ?_
   refine sN ?_
   refine vz 16 (Qeb v8) [(0,.ra 1000 0),(2,sL ctx2),(3,sI ty3),(4,I deep4),(6,.ra 1 0),(10,.ra 2 0),(17,sI v8),(18,.rs 17)] [(1,K1g s1),(2,.box [I 0,I 0,.nils,.nils]),(17,rI w1),(1000,K1e w2)] ?_
   obtain ⟨w4,w5,h⟩ := Qdj h
   refine rg hc none [oN,oN,some (.mk 19 false),some (.call (.osl (List.map K0q w4)) [.tup []] 20),oN] [(0,.ra 1000 0),(2,sL ctx2),(3,sI ty3),(4,I deep4),(6,.ra 1 0),(10,.ra 2 0),(17,sI v8),(18,.rs 17),(19,.rs 20)] [(1,K1g s1),(2,.box [I 0,I 0,.nils,.nils]),(17,rI w1),(20,.arr (List.map K0q w4)),(1000,K1e w2)] (ab (Q75.args (A1 := [sL ctx2,.sl (Q02 (List.map K0q [v8]))]) (A2 := [sL ctx2,.sl (List.map K0q [v8])]) (by simp only [List.map_nil,K0u]) (Kd7 _ _ w5)) K4g tv) ?_
   refine sN ?_
   refine vz 17 (Qeb w1) [(0,.ra 1000 0),(2,sL ctx2),(3,sI ty3),(4,I deep4),(6,.ra 1 0),(10,.ra 2 0),(17,sI v8),(18,sI w1),(19,.rs 20)] [(1,K1g s1),(2,.box [I 0,I 0,.nils,.nils]),(20,.arr (List.map K0q w4)),(1000,K1e w2)] ?_
   obtain ⟨w6,w7,h⟩ := Qdj h
   refine rg hc none [oN,oN,some (.mk 22 false),some (.call (.osl (List.map K0q w6)) [.tup []] 23),oN] [(0,.ra 1000 0),(2,sL ctx2),(3,sI ty3),(4,I deep4),(6,.ra 1 0),(10,.ra 2 0),(17,sI v8),(18,sI w1),(19,.rs 20),(20,.rs 23)] [(1,K1g s1),(2,.box [I 0,I 0,.nils,.nils]),(20,.arr (List.map K0q w4)),(23,.arr (List.map K0q w6)),(1000,K1e w2)] (ab (Q75.args (A1 := [sL ctx2,.sl (Q02 (List.map K0q [w1]))]) (A2 := [sL ctx2,.sl (List.map K0q [w1])]) (by simp only [List.map_nil,K0u]) (Kd7 _ _ w7)) K4g tv) ?_
   refine sN ?_
   refine vz 20 (K0u w4) [(0,.ra 1000 0),(2,sL ctx2),(3,sI ty3),(4,I deep4),(6,.ra 1 0),(10,.ra 2 0),(17,sI v8),(18,sI w1),(19,sL w4),(20,.rs 23)] [(1,K1g s1),(2,.box [I 0,I 0,.nils,.nils]),(23,.arr (List.map K0q w6)),(1000,K1e w2)] ?_
   obtain ⟨⟨w8,w9⟩,x0,h⟩ := Qdj h
   refine rg hc none [oN,oN,oN,oN,oN,some (.call (K1d w8) [.optr [.sl (List.map U8 w9.fb),I w9.fi,I w9.fh],.undef,.undef,.undef,.undef] 1),some (.new 24),oN] [(0,.ra 1000 0),(2,sL ctx2),(3,sI ty3),(4,I deep4),(6,.ra 1 0),(10,.ra 2 0),(17,sI v8),(18,sI w1),(19,sL w4),(20,.rs 23),(21,.ra 24 0)] [(1,K1g s1),(2,.box [I 0,I 0,.nils,.nils]),(23,.arr (List.map K0q w6)),(24,K1c w8),(1000,K1e w9)] (ab (spec_dOf_ih _ _ x0) K3y tv) ?_
   refine sN ?_
   refine vz 23 (K0u w6) [(0,.ra 1000 0),(2,sL ctx2),(3,sI ty3),(4,I deep4),(6,.ra 1 0),(10,.ra 2 0),(17,sI v8),(18,sI w1),(19,sL w4),(20,sL w6),(21,.ra 24 0)] [(1,K1g s1),(2,.box [I 0,I 0,.nils,.nils]),(24,K1c w8),(1000,K1e w9)] ?_
   obtain ⟨⟨x1,x2⟩,x3,h⟩ := Qdj h
   refine rg hc none [oN,oN,oN,oN,oN,some (.call (K1d x1) [.optr [.sl (List.map U8 x2.fb),I x2.fi,I x2.fh],.undef,.undef,.undef,.undef] 1),some (.new 25),oN] [(0,.ra 1000 0),(2,sL ctx2),(4,I deep4),(6,.ra 1 0),(10,.ra 2 0),(17,sI v8),(18,sI w1),(19,sL w4),(20,sL w6),(21,.ra 24 0),(22,.ra 25 0)] [(1,K1g s1),(2,.box [I 0,I 0,.nils,.nils]),(24,K1c w8),(25,K1c x1),(1000,K1e x2)] (ab (spec_dOf_ih _ _ x3) K3y tv) ?_
   obtain ⟨x4,x5,j8,k0,x6,x7,x8,x9,h⟩ := bq4 h
   refine rss hc Kf9 [oN,oN,oN,oN,oN,oc (I x4),oN,oN,oN,oc (I j8),oc (I x6),oc (I x8),oN] [(0,.ra 1000 0),(2,sL ctx2),(4,I deep4),(6,.ra 1 0),(10,.ra 2 0),(17,sI v8),(18,sI w1),(21,.ra 24 0),(22,.ra 25 0),(23,I x8)] (cq (Keg _ _ x5) K50 (cq (Keg _ _ k0) K50 (cq (Kab _ _ x7) K35 (cq (Kab _ _ x9) K35 tv)))) ?_
   obtain ⟨⟨y0,y1⟩,y2,h⟩ := Qdj h
   obtain ⟨y3,y4,⟨y5,y6⟩,y7,h⟩ := bq2 h
   obtain ⟨y8,y9,h⟩ := Qdj h
   refine rs hc (rx [[0],[0],[0],[3],[0],[0],[0],[0],[0],[0,7,8],[4,7,8,9],[0],[12],[0],[0],[15],[16],[17]]) [oN,oN,oN,some (.call (I y0) [.optr [.sl (List.map U8 y1.fb),I y1.fi,I y1.fh],.undef,.undef] 1),oN,oN,oN,oN,oN,some (.mk 28 false),some (.call (sI y3) [.tup []] 1),oN,some (.call (K1d y5) [.optr [.sl (List.map U8 y6.fb),I y6.fi,I y6.fh],.undef,.undef,.undef,.undef] 1),oN,oN,some (.eqv (.mk 29 false) ⟨[(164,.rs 29)],[(29,some (.arr (List.map K05 [y5,w8,x1])))],[29]⟩),some (.call (K1d y8) [.tup []] 1),oN] [(10,.ra 2 0)] [(2,K1c y8),(1000,K1e y6)] (ad (Ken _ _ y2) K52 (Q75.args (A1 := [I 2,.sl (Q02 (List.map K0q [v8,w1]))]) (A2 := [I 2,.sl (List.map K0q [v8,w1])]) (by simp only [List.map_nil,K0u]) (Q75.res (r2 := sI y3) (by simp only [share,Q02,Qeb]) (Q75.shr (Kbv _ _ y4)))) K3o (ad (spec_dOf_ih _ _ y7) K3y (congrArg (fun z => (⟨[(164,.rs 29)],[(29,some (.arr z))],[29]⟩ : Wr)) ((Qeq (K0c y5) (Qeq (K0c w8) (Qeq (K0c x1) Qep))) : [K1d y5,K1d w8,K1d x1] = List.map K05 [y5,w8,x1])) (Q75.args (A1 := [I 8,I y0,.sl (Q02 (List.map K05 [y5,w8,x1]))]) (A2 := [I 8,I y0,.sl (List.map K05 [y5,w8,x1])]) (by simp only [List.map_nil,K0z]) (Kcf _ _ y9)) (ai K3u tv))) ?_
   refine rt ?_
   obtain rfl := os h
   exact Qdg.ret (fl := [false]) (by kernel_rfl)
  refine K7p hc 2 [(0,.ra 1000 0),(2,sL ctx2),(3,sI ty3),(4,I deep4),(6,.ra 1 0),(10,.ra 2 0),(166,.bool (m4 == 3))] ?_
  refine ic h (fun z0 h => ?_) fun z0 h => ?_
  ·obtain ⟨⟨z1,z2⟩,z3,h⟩ := Qdj h
   obtain ⟨⟨z4,z5⟩,z6,h⟩ := Qdj h
   refine rs hc Kf8 [oN,oN,oN,some (.call (.bool z1) [.optr [.sl (List.map U8 z2.fb),I z2.fi,I z2.fh],.undef] 1),some (.call (oI z4) [.optr [.sl (List.map U8 z5.fb),I z5.fi,I z5.fh],.undef,.undef,.undef] 30),oN] [(0,.ra 1000 0),(2,sL ctx2),(3,sI ty3),(4,I deep4),(6,.ra 1 0),(10,.ra 2 0),(24,.rs 30)] [(1,K1g s1),(2,.box [I 0,I 0,.nils,.nils]),(30,rI z4),(1000,K1e z5)] (ad (K8f _ _ z3) K2i (Kby _ _ z6) K3m tv) ?_
   refine sN ?_
   refine vz 30 (Qeb z4) [(0,.ra 1000 0),(2,sL ctx2),(3,sI ty3),(4,I deep4),(6,.ra 1 0),(10,.ra 2 0),(24,sI z4)] [(1,K1g s1),(2,.box [I 0,I 0,.nils,.nils]),(1000,K1e z5)] ?_
   obtain ⟨z7,z8,h⟩ := Qdj h
   refine rg hc none [oN,oN,some (.mk 32 false),some (.call (.osl (List.map K0q z7)) [.tup []] 33),oN] [(0,.ra 1000 0),(2,sL ctx2),(3,sI ty3),(4,I deep4),(6,.ra 1 0),(10,.ra 2 0),(24,sI z4),(25,.rs 33)] [(1,K1g s1),(2,.box [I 0,I 0,.nils,.nils]),(33,.arr (List.map K0q z7)),(1000,K1e z5)] (ab (Q75.args (A1 := [sL ctx2,.sl (Q02 (List.map K0q [z4]))]) (A2 := [sL ctx2,.sl (List.map K0q [z4])]) (by simp only [List.map_nil,K0u]) (Kd7 _ _ z8)) K4g tv) ?_
   refine sN ?_
   refine vz 33 (K0u z7) [(0,.ra 1000 0),(2,sL ctx2),(3,sI ty3),(4,I deep4),(6,.ra 1 0),(10,.ra 2 0),(24,sI z4),(25,sL z7)] [(1,K1g s1),(2,.box [I 0,I 0,.nils,.nils]),(1000,K1e z5)] ?_
   obtain ⟨⟨m1,m2⟩,m3,h⟩ := Qdj h
   refine rg hc none [oN,oN,oN,oN,oN,some (.call (K1d m1) [.optr [.sl (List.map U8 m2.fb),I m2.fi,I m2.fh],.undef,.undef,.undef,.undef] 1),some (.new 34),oN] [(0,.ra 1000 0),(2,sL ctx2),(4,I deep4),(6,.ra 1 0),(10,.ra 2 0),(24,sI z4),(25,sL z7),(26,.ra 34 0)] [(1,K1g s1),(2,.box [I 0,I 0,.nils,.nils]),(34,K1c m1),(1000,K1e m2)] (ab (spec_dOf_ih _ _ m3) K3y tv) ?_
   obtain ⟨z9,h0,⟨h1,h2⟩,h3,h⟩ := bq2 h
   refine rs hc Kfa [oN,oN,oN,oN,oN,oc (I z9),some (.call (I h1) [.optr [.sl (List.map U8 h2.fb),I h2.fi,I h2.fh],.undef,.undef] 1),oN] [(0,.ra 1000 0),(2,sL ctx2),(4,I deep4),(6,.ra 1 0),(10,.ra 2 0),(24,sI z4),(26,.ra 34 0),(27,I h1)] [(1,K1g s1),(2,.box [I 0,I 0,.nils,.nils]),(34,K1c m1),(1000,K1e h2)] (cq (Keg _ _ h0) K50 (ab (Ken _ _ h3) K52 tv)) ?_
   obtain ⟨h4,h5,⟨h6,h7⟩,h8,h⟩ := bq2 h
   obtain ⟨h9,a00,h⟩ := Qdj h
   refine rs hc (rx [[0],[0],[0],[0],[0,3],[0],[0,5],[0,3,4,5,6],[0],[9],[0],[11],[12],[13]]) [oN,oN,oN,oN,oN,oN,some (.mk 37 false),some (.call (sI h4) [.tup []] 1),oN,some (.call (K1d h6) [.optr [.sl (List.map U8 h7.fb),I h7.fi,I h7.fh],.undef,.undef,.undef,.undef] 1),oN,some (.eqv (.mk 38 false) ⟨[(201,.rs 38)],[(38,some (.arr (List.map K05 [h6,m1])))],[38]⟩),some (.call (K1d h9) [.tup []] 1),oN] [(10,.ra 2 0)] [(2,K1c h9),(1000,K1e h7)] (ad (Q75.args (A1 := [I (wr (19 + h1)),.sl (Q02 (List.map K0q [z4]))]) (A2 := [I (wr (19 + h1)),.sl (List.map K0q [z4])]) (by simp only [List.map_nil,K0u]) (Q75.res (r2 := sI h4) (by simp only [share,Q02,Qeb]) (Q75.shr (Kbv _ _ h5)))) K3o (spec_dOf_ih _ _ h8) K3y (ac (congrArg (fun z => (⟨[(201,.rs 38)],[(38,some (.arr z))],[38]⟩ : Wr)) ((Qeq (K0c h6) (Qeq (K0c m1) Qep)) : [K1d h6,K1d m1] = List.map K05 [h6,m1])) (Q75.args (A1 := [I 12,I 1,.sl (Q02 (List.map K05 [h6,m1]))]) (A2 := [I 12,I 1,.sl (List.map K05 [h6,m1])]) (by simp only [List.map_nil,K0z]) (Kcf _ _ a00)) K3u tv)) ?_
   refine rt ?_
   obtain rfl := os h
   exact Qdg.ret (fl := [false]) (by kernel_rfl)
  refine sk ?_
  obtain ⟨⟨a01,a02⟩,a03,h⟩ := Qdj h
  obtain ⟨⟨a04,a05⟩,a06,h⟩ := Qdj h
  refine rs hc Kf8 [oN,oN,oN,some (.call (.bool a01) [.optr [.sl (List.map U8 a02.fb),I a02.fi,I a02.fh],.undef] 1),some (.call (oI a04) [.optr [.sl (List.map U8 a05.fb),I a05.fi,I a05.fh],.undef,.undef,.undef] 39),oN] [(0,.ra 1000 0),(2,sL ctx2),(3,sI ty3),(4,I deep4),(6,.ra 1 0),(10,.ra 2 0),(28,.rs 39)] [(1,K1g s1),(2,.box [I 0,I 0,.nils,.nils]),(39,rI a04),(1000,K1e a05)] (ad (K8f _ _ a03) K2i (Kby _ _ a06) K3m tv) ?_
  refine sN ?_
  refine vz 39 (Qeb a04) [(0,.ra 1000 0),(2,sL ctx2),(3,sI ty3),(4,I deep4),(6,.ra 1 0),(10,.ra 2 0),(28,sI a04)] [(1,K1g s1),(2,.box [I 0,I 0,.nils,.nils]),(1000,K1e a05)] ?_
  obtain ⟨a07,a08,h⟩ := Qdj h
  refine rg hc none [oN,oN,some (.mk 41 false),some (.call (.osl (List.map K0q a07)) [.tup []] 42),oN] [(0,.ra 1000 0),(2,sL ctx2),(3,sI ty3),(4,I deep4),(6,.ra 1 0),(10,.ra 2 0),(28,sI a04),(29,.rs 42)] [(1,K1g s1),(2,.box [I 0,I 0,.nils,.nils]),(42,.arr (List.map K0q a07)),(1000,K1e a05)] (ab (Q75.args (A1 := [sL ctx2,.sl (Q02 (List.map K0q [a04]))]) (A2 := [sL ctx2,.sl (List.map K0q [a04])]) (by simp only [List.map_nil,K0u]) (Kd7 _ _ a08)) K4g tv) ?_
  refine sN ?_
  refine vz 42 (K0u a07) [(0,.ra 1000 0),(2,sL ctx2),(3,sI ty3),(4,I deep4),(6,.ra 1 0),(10,.ra 2 0),(28,sI a04),(29,sL a07)] [(1,K1g s1),(2,.box [I 0,I 0,.nils,.nils]),(1000,K1e a05)] ?_
  obtain ⟨⟨a09,a10⟩,a11,h⟩ := Qdj h
  refine rg hc none [oN,oN,oN,oN,oN,some (.call (K1d a09) [.optr [.sl (List.map U8 a10.fb),I a10.fi,I a10.fh],.undef,.undef,.undef,.undef] 1),some (.new 43),oN] [(0,.ra 1000 0),(2,sL ctx2),(3,sI ty3),(4,I deep4),(6,.ra 1 0),(10,.ra 2 0),(28,sI a04),(29,sL a07),(30,.ra 43 0)] [(1,K1g s1),(2,.box [I 0,I 0,.nils,.nils]),(43,K1c a09),(1000,K1e a10)] (ab (spec_dOf_ih _ _ a11) K3y tv) ?_
  obtain ⟨a12,a13,⟨a14,a15⟩,a16,h⟩ := bq2 h
  refine rs hc Kfa [oN,oN,oN,oN,oN,oc (I a12),some (.call (I a14) [.optr [.sl (List.map U8 a15.fb),I a15.fi,I a15.fh],.undef,.undef] 1),oN] [(0,.ra 1000 0),(2,sL ctx2),(3,sI ty3),(4,I deep4),(6,.ra 1 0),(10,.ra 2 0),(28,sI a04),(30,.ra 43 0),(31,I a14)] [(1,K1g s1),(2,.box [I 0,I 0,.nils,.nils]),(43,K1c a09),(1000,K1e a15)] (cq (Keg _ _ a13) K50 (ab (Ken _ _ a16) K52 tv)) ?_
  refine rs hc none [oN,oN,oN,some (.eqv (.mk 44 false) ⟨[(228,.rs 44)],[(44,some (.arr (List.map K05 [a09])))],[44]⟩),oN,some (.new 45),oN] [(0,.ra 1000 0),(2,sL ctx2),(3,sI ty3),(4,I deep4),(6,.ra 1 0),(10,.ra 2 0),(28,sI a04),(31,I a14),(32,.ra 45 0)] [(1,K1g s1),(2,.box [I 0,I 0,.nils,.nils]),(44,.arr (List.map K05 [a09])),(45,.box [I 9,I a14,sI a04,.rs 44]),(1000,K1e a15)] (ai (congrArg (fun z => (⟨[(228,.rs 44)],[(44,some (.arr z))],[44]⟩ : Wr)) ((Qeq (K0c a09) Qep) : [K1d a09] = List.map K05 [a09])) tv) ?_
  refine sN ?_
  obtain ⟨⟨a17,a18⟩,a19,h⟩ := Qdj h
  refine rs hc none [oN,some (.call (.bool a17) [.optr [.sl (List.map U8 a18.fb),I a18.fi,I a18.fh],.undef] 1)] [(0,.ra 1000 0),(2,sL ctx2),(3,sI ty3),(4,I deep4),(6,.ra 1 0),(10,.ra 2 0),(28,sI a04),(31,I a14),(32,.ra 45 0),(231,.bool a17)] [(1,K1g s1),(2,.box [I 0,I 0,.nils,.nils]),(44,.arr (List.map K05 [a09])),(45,.box [I 9,I a14,sI a04,.rs 44]),(1000,K1e a18)] (ab (K8f _ _ a19) K2i tv) ?_
  obtain ⟨fl,a20,h⟩ := Qdj h
  refine flw (Kf1 c c0 s1 ctx2 ty3 deep4 a04 a09 a14 a18 fl) ?_ (fun hF => ?_)
  ·replace h := a20
   refine ic h (fun a21 h => ?_) fun a21 h => ?_
   ·obtain ⟨a22,a23,h⟩ := Qdj h
    refine rs hc none [oN,oN,oN,oN,some (.mk 46 false),some (.call (oI a22) [] 47),oN] [(0,.ra 1000 0),(2,sL ctx2),(4,I deep4),(6,.ra 1 0),(10,.ra 2 0),(28,sI a04),(32,.ra 45 0),(33,.rs 47)] [(1,K1g s1),(2,.box [I 0,I 0,.nils,.nils]),(44,.arr (List.map K05 [a09])),(45,.box [I 9,I a14,sI a04,.rs 44]),(47,rI a22),(1000,K1e a18)] (ac (Q75.args (A1 := [I (wr (3 + a14)),.sl (Q02 (List.map K0q [a04,ty3]))]) (A2 := [I (wr (3 + a14)),.sl (List.map K0q [a04,ty3])]) (by simp only [List.map_nil,K0u]) (Kbv _ _ a23)) K3o (Or.inr (Qej Qef a22) : ([46] : List Nat) = [] ∨ noSh (oI a22) = true) tv) ?_
    refine rss hc none [oN,some (.eqv (.no) ⟨[(239,I (a22.length : Int))],[],[]⟩),oN] [(0,.ra 1000 0),(2,sL ctx2),(4,I deep4),(6,.ra 1 0),(10,.ra 2 0),(28,sI a04),(32,.ra 45 0),(33,.rs 47),(240,.bool (decide ((a22.length : Int) < 12)))] (ai (Qdp (d := 239) I a22) tv) ?_
    refine ic h (fun a24 h => ?_) fun a24 h => ?_
    ·obtain ⟨a25,a26,⟨a27,a28⟩,a29,h⟩ := bq2 h
     obtain ⟨a30,a31,a32,a33,h⟩ := bq2 h
     refine rs hc (rx [[0],[0],[0],[0],[0],[0],[0,5],[7],[8],[9],[10],[0],[12]]) [oc (K1d a25),oN,oN,oN,oN,oN,oN,some (.call (K1d a27) [.optr [.sl (List.map U8 a28.fb),I a28.fi,I a28.fh],.undef,.undef,.undef,.undef] 1),oc (K1d a30),some (.eqv (.mk 51 false) ⟨[(250,.rs 51)],[(51,some (.arr (List.map K05 [a25,a30])))],[51]⟩),some (.call (K1d a32) [.tup []] 1),some (.new 52),oN] [(10,.ra 2 0),(32,.ra 45 0),(33,.rs 47),(34,.ra 52 0)] [(2,.box [I 0,I 0,.nils,.nils]),(44,.arr (List.map K05 [a09])),(45,.box [I 9,I a14,sI a04,.rs 44]),(47,rI a22),(52,K1c a32),(1000,K1e a28)] (cq (Q75.args (A1 := [I 0,I 0,.sl []]) (A2 := [I 0,I 0,.sl (List.map K05 [])]) (by simp only [List.map_nil]) (Kcf _ _ a26)) K3u (ab (spec_dOf_ih _ _ a29) K3y (cq (Q75.res (r2 := K1d a30) (by simp only [share,Q02,K14,Qeb]) (Q75.shr (Kex _ _ a31))) K56 (ac (congrArg (fun z => (⟨[(250,.rs 51)],[(51,some (.arr z))],[51]⟩ : Wr)) ((Qeq (K0c a25) (Qeq (K0c a30) Qep)) : [K1d a25,K1d a30] = List.map K05 [a25,a30])) (Q75.args (A1 := [I 10,I 0,.sl (Q02 (List.map K05 [a25,a30]))]) (A2 := [I 10,I 0,.sl (List.map K05 [a25,a30])]) (by simp only [List.map_nil,K0z]) (Kcf _ _ a33)) K3u tv)))) ?_
     refine sN ?_
     refine vz 47 (Qeb a22) [(10,.ra 2 0),(32,.ra 45 0),(33,sI a22),(34,.ra 52 0)] [(2,.box [I 0,I 0,.nils,.nils]),(44,.arr (List.map K05 [a09])),(45,.box [I 9,I a14,sI a04,.rs 44]),(52,K1c a32),(1000,K1e a28)] ?_
     refine vz 44 (K0z [a09]) [(10,.ra 2 0),(32,.ra 45 0),(33,sI a22),(34,.ra 52 0)] [(2,.box [I 0,I 0,.nils,.nils]),(45,.box [I 9,I a14,sI a04,.sl (List.map K05 [a09])]),(52,K1c a32),(1000,K1e a28)] ?_
     obtain ⟨a34,a35,h⟩ := Qdj h
     refine rg hc none [oN,oN,some (.eqv (.call .undef [] 59) ⟨[(254,.sl (List.map K05 [a32]))],[(59,none)],[59]⟩),oN,oN,some (.eqv (.mk 60 false) ⟨[(257,.rs 60)],[(60,some (.arr (List.map K05 [(K00.mk 9 1 a22 [a32]),(K00.mk 9 a14 a04 [a09])])))],[60]⟩),some (.call (K1d a34) [.tup []] 1),oN] [(10,.ra 2 0)] [(2,K1c a34),(1000,K1e a28)] (ad (congrArg (fun z => (⟨[(254,.sl z)],[(59,none)],[59]⟩ : Wr)) ((Qeq (K0c a32) Qep) : [K1d a32] = List.map K05 [a32])) (congrArg (fun z => (⟨[(257,.rs 60)],[(60,some (.arr z))],[60]⟩ : Wr)) ((Qeq (K0c (K00.mk 9 1 a22 [a32])) (Qeq (K0c (K00.mk 9 a14 a04 [a09])) Qep)) : [AV.agg [I 9,I 1,sI a22,.sl (List.map K05 [a32])],AV.agg [I 9,I a14,sI a04,.sl (List.map K05 [a09])]] = List.map K05 [(K00.mk 9 1 a22 [a32]),(K00.mk 9 a14 a04 [a09])])) (Q75.args (A1 := [I 10,I 0,.sl (Q02 (List.map K05 [(K00.mk 9 1 a22 [a32]),(K00.mk 9 a14 a04 [a09])]))]) (A2 := [I 10,I 0,.sl (List.map K05 [(K00.mk 9 1 a22 [a32]),(K00.mk 9 a14 a04 [a09])])]) (by simp only [List.map_nil,K0z]) (Kcf _ _ a35)) K3u tv) ?_
     refine rt ?_
     obtain rfl := os h
     exact Qdh.ret (fl := [false]) (by kernel_rfl)
    refine sk ?_
    obtain rfl := os h
    exact iv []
   refine sk ?_
   obtain rfl := os h
   exact iv []
  rcases fl with ⟨⟩ | r
  ·refine Wp.into (x := .normal) (mkS [(0,.ra 1000 0),(2,sL ctx2),(4,I deep4),(6,.ra 1 0),(10,.ra 2 0),(28,sI a04),(32,.ra 45 0)] [(1,K1g s1),(2,.box [I 0,I 0,.nils,.nils]),(44,.arr (List.map K05 [a09])),(45,.box [I 9,I a14,sI a04,.rs 44]),(1000,K1e a18)]) hF ?_
   refine sN ?_
   refine vz 44 (K0z [a09]) [(0,.ra 1000 0),(2,sL ctx2),(4,I deep4),(6,.ra 1 0),(10,.ra 2 0),(28,sI a04),(32,.ra 45 0)] [(1,K1g s1),(2,.box [I 0,I 0,.nils,.nils]),(45,.box [I 9,I a14,sI a04,.sl (List.map K05 [a09])]),(1000,K1e a18)] ?_
   obtain ⟨⟨a36,a37⟩,a38,h⟩ := Qdj h
   obtain ⟨a39,a40,h⟩ := Qdj h
   refine rg hc (rx [[0],[0],[0],[0],[0],[0],[0,5],[0,1,2,3,4,5,6],[8],[9],[10]]) [oN,oN,oN,oN,oN,oN,oN,some (.call (K1d a36) [.optr [.sl (List.map U8 a37.fb),I a37.fi,I a37.fh],.undef,.undef,.undef,.undef] 1),some (.eqv (.mk 62 false) ⟨[(267,.rs 62)],[(62,some (.arr (List.map K05 [(K00.mk 9 a14 a04 [a09]),a36])))],[62]⟩),some (.call (K1d a39) [.tup []] 1),oN] [(10,.ra 2 0)] [(2,K1c a39),(1000,K1e a37)] (ad (spec_dOf_ih _ _ a38) K3y (congrArg (fun z => (⟨[(267,.rs 62)],[(62,some (.arr z))],[62]⟩ : Wr)) ((Qeq (K0c (K00.mk 9 a14 a04 [a09])) (Qeq (K0c a36) Qep)) : [AV.agg [I 9,I a14,sI a04,.sl (List.map K05 [a09])],K1d a36] = List.map K05 [(K00.mk 9 a14 a04 [a09]),a36])) (Q75.args (A1 := [I 10,I 0,.sl (Q02 (List.map K05 [(K00.mk 9 a14 a04 [a09]),a36]))]) (A2 := [I 10,I 0,.sl (List.map K05 [(K00.mk 9 a14 a04 [a09]),a36])]) (by simp only [List.map_nil,K0z]) (Kcf _ _ a40)) (ai K3u tv)) ?_
   refine rt ?_
   obtain rfl := os h
   exact Qdg.ret (fl := [false]) (by kernel_rfl)
  refine Wp.mono hF ?_
  rintro _ _ ⟨rfl,hfin⟩
  obtain rfl := os h
  exact ⟨.inl rfl,hfin⟩
theorem Kfk : ∀ p r,Kfb p = some r → Kff p r := Kfj.1
theorem Kfl : ∀ p r,Kfc p = some r → Kfg p r := Kfj.2.1
theorem Kfm : ∀ p r,Kfd p = some r → Kfh p r := Kfj.2.2.1
theorem Kfn : ∀ p r,Kfe p = some r → Kfi p r := Kfj.2.2.2
def Kfo (c : Ctx) : Int → Exit → Q0a → Prop
 | a0 => Qd5 c (.exit 0) (mkS [(1,I a0)] [])
mutual
def Kfp (p : K00 × Int) : Option (Int) :=
 match p with
 | (t0,left1) =>
  (Kfq (t0,(wr (left1 - 1)),0)) >>= fun a0 =>
  some a0
 partial_fixpoint
def Kfq (p : K00 × Int × Int) : Option (Int) :=
 match p with
 | (t0,a0,a1) =>
  ((
  if (decide (a1 < (t0.fKids.length : Int))) = true then
  some ((decide (a0 ≥ 0)))
  else
  some (false)
  ) : Option (Bool)) >>= fun a2 =>
  if a2 = true then
  (idx t0.fKids a1) >>= fun a3 =>
  (Kfp (a3,a0)) >>= fun a4 =>
  Kfq (t0,a4,(wr (a1 + 1)))
  else
  some (a0)
 partial_fixpoint
end
def Kfr (p : K00 × Int) (r : Int) : Prop :=
 match p with
 | (t0,left1) => Q75 Tryz.prog 113 [K1d t0,I left1] (I r) []
def Kfs (p : K00 × Int × Int) (fl : Int) : Prop :=
 match p with
 | (t0,a0,a1) => ∀ c : Ctx,c.nt = 27 → WpL Tryz.prog c (cl (cl (cr (cl (cr (cr K57)))))) (Kfo c fl) (mkS [(1,I a0),(2,.ra 1 0),(5,I a1)] [(1,K1c t0)])
theorem Kft : (∀ p r,Kfp p = some r → Kfr p r) ∧ (∀ p r,Kfq p = some r → Kfs p r) := by
 refine Kfp.mutual_partial_correctness Kfr Kfs ?_ ?_
 ·rintro spec_l2Left_l0_f spec_l2Left_l0_ih ⟨t0,left1⟩ r h
  refine b0 Tryz.f113 K57 27 [(0,K1d t0),(1,I left1)] fun c hc => ?_
  refine rs hc none [some (.new 1),oN] [(1,I left1),(2,.ra 1 0)] [(1,K1c t0)] tv ?_
  refine K7p hc 3 [(1,I (wr (left1 - 1))),(2,.ra 1 0)] ?_
  refine sN ?_
  refine K7p hc 1 [(1,I (wr (left1 - 1))),(2,.ra 1 0),(5,I 0)] ?_
  refine bk 0 ?_
  obtain ⟨a0,a1,h⟩ := Qdj h
  have hL := spec_l2Left_l0_ih _ _ a1 c hc
  refine lp ?_
  refine WpL.into (e := (.exit 0)) (mkS [(1,I a0)] []) hL ?_
  refine Qcx ?_
  refine rs0 hc 2 [(4,I a0)] [] ?_
  refine rt ?_
  obtain rfl := os h
  exact rq [true]
 ·rintro spec_l2Left_f spec_l2Left_l0_f spec_l2Left_ih spec_l2Left_l0_ih ⟨t0,a2,a3⟩ r h
  intro c hc
  refine WpL.step ?_
  refine sN ?_
  refine sN ?_
  obtain ⟨a4,a5,h⟩ := Qdj h
  refine Wp.into (x := .normal) (mkS [(1,I a2),(2,.ra 1 0),(5,I a3),(16,.bool a4)] [(1,K1c t0)]) ?_ ?_
  ·replace h := a5
   rcases is h with ⟨a6,h⟩ | ⟨a6,h⟩
   ·refine rgs hc none [oN,oN,oN,some (.eqv (.no) ⟨[(11,I (t0.fKids.length : Int))],[],[]⟩),oN,oN,oN,oN,oT] [(1,I a2),(2,.ra 1 0),(5,I a3),(16,.bool (decide (a2 ≥ 0)))] (ai (Qdp (d := 11) K05 t0.fKids) (ar 3 a6 tv)) ?_
    obtain rfl := os h
    exact Qd5.mk
   refine rgs hc none [oN,oN,oN,some (.eqv (.no) ⟨[(11,I (t0.fKids.length : Int))],[],[]⟩),oN,oN,o_,o_,oF] [(1,I a2),(2,.ra 1 0),(5,I a3),(16,.bool false)] (ai (Qdp (d := 11) K05 t0.fKids) (ar 2 (neT a6) (ai a6 tv))) ?_
   obtain rfl := os h
   exact Qd5.mk
  clear a5
  refine ic h (fun a7 h => ?_) fun a7 h => ?_
  ·refine sk ?_
   refine sN ?_
   refine bk 1 ?_
   obtain ⟨a8,a9,b1,b2,h⟩ := bq2 h
   refine rgs hc none [oN,oN,oN,some (.el (K1d a8)),oN,oN,oc (I b1),oN] [(1,I b1),(2,.ra 1 0),(5,I a3)] (ai (Qdn a9 (K0c a8)) (cq (spec_l2Left_ih _ _ b2) K58 tv)) ?_
   refine K7o hc 3 [(1,I b1),(2,.ra 1 0),(5,I (wr (a3 + 1)))] ?_
   refine Qd1 ?_
   exact (spec_l2Left_l0_ih _ _ h c hc)
  refine xt 0 ?_
  refine Qcv ?_
  refine Qd2 ?_
  obtain rfl := os h
  exact iv []
theorem Kfu : ∀ p r,Kfp p = some r → Kfr p r := Kft.1
theorem Kfv : ∀ p r,Kfq p = some r → Kfs p r := Kft.2
def Kfw (c : Ctx) (c0 : K01) (s1 : K02) (ctx2 : LL) (deep3 : Int) (data4 : Bool) : (Int × Int × (List Int) × (List K00) × (List Int) × Int × Int) ⊕ ((K00 × K01)) → Exit → Q0a → Prop
 | .inl (a0,a1,a2,a3,a4,a5,a6) => Qd5 c (.exit 0) (mkS [(10,.ra 2 0),(11,.ra 4 0)] [(2,.box [I 0,I 0,.nils,.nils]),(4,.box [I a0,I a1,sI a2,.sl (List.map K05 a3)]),(1000,.box [.sl (List.map U8 a4),I a5,I a6])])
 | .inr r => Qdh TIx Tryz.f201 [.optr [.sl (List.map U8 c0.fb),I c0.fi,I c0.fh],K1h s1,sL ctx2,I deep3,.bool data4] (.agg [I r.1.fOp,I r.1.fN,.sl (List.map I r.1.fType),.sl (List.map K05 r.1.fKids)],[.optr [.sl (List.map U8 r.2.fb),I r.2.fi,I r.2.fh],.undef,.undef,.undef,.undef])
def Kfx (p : K01 × K02 × LL × Int × Bool × (List Int) × Int × Int × Int × Int × (List Int) × (List K00) × Int) : Option ((Int × Int × (List Int) × (List K00) × (List Int) × Int × Int) ⊕ ((K00 × K01))) :=
 match p with
 | (c0,s1,ctx2,deep3,data4,a0,a1,a2,a3,a4,a5,a6,a7) =>
  if (decide (a7 < 3)) = true then
  ((
  (Kfp ((K00.mk a3 a4 a5 a6),120)) >>= fun a8 =>
  if (decide (a8 ≥ 0)) = true then
  (Ke1 (s1,ctx2,(K00.mk a3 a4 a5 a6))) >>= fun a9 =>
  some ((a9.ffault == 0))
  else
  some (false)
  ) : Option (Bool)) >>= fun b1 =>
  if b1 = true then
  some (.inr ((K00.mk a3 a4 a5 a6),(K01.mk a0 a1 a2)))
  else
  (Kbw ((K01.mk a0 a1 a2),s1,1,data4)) >>= fun (b2,b3) =>
  (K81 (deep3,2)) >>= fun b4 =>
  (Kfb (b3,s1,ctx2,b2,b4)) >>= fun (b5,b6) =>
  Kfx (c0,s1,ctx2,deep3,data4,b6.fb,b6.fi,b6.fh,b5.fOp,b5.fN,b5.fType,b5.fKids,(wr (a7 + 1)))
  else
  some (.inl (a3,a4,a5,a6,a0,a1,a2))
 partial_fixpoint
def Kfy (p : K01 × K02 × LL × Int × Bool × (List Int) × Int × Int × Int × Int × (List Int) × (List K00) × Int) (fl : (Int × Int × (List Int) × (List K00) × (List Int) × Int × Int) ⊕ ((K00 × K01))) : Prop :=
 match p with
 | (c0,s1,ctx2,deep3,data4,a0,a1,a2,a3,a4,a5,a6,a7) => ∀ c : Ctx,c.nt = 53 → WpL Tryz.prog c (cl (cl (cr (cl (cr (cr K59)))))) (Kfw c c0 s1 ctx2 deep3 data4 fl) (mkS [(0,.ra 1000 0),(2,sL ctx2),(3,I deep3),(4,.bool data4),(6,.ra 1 0),(10,.ra 2 0),(11,.ra 4 0),(12,I a7)] [(1,K1g s1),(2,.box [I 0,I 0,.nils,.nils]),(4,.box [I a3,I a4,sI a5,.sl (List.map K05 a6)]),(1000,.box [.sl (List.map U8 a0),I a1,I a2])])
theorem Kfz : ∀ p r,Kfx p = some r → Kfy p r := by
 refine Kfx.partial_correctness Kfy ?_
 rintro spec_dIn_l0_f spec_dIn_l0_ih ⟨c0,s1,ctx2,deep3,data4,a0,a1,a2,a3,a4,a5,a6,a7⟩ r h
 intro c hc
 refine WpL.step ?_
 refine sN ?_
 refine K7p hc 2 [(0,.ra 1000 0),(2,sL ctx2),(3,I deep3),(4,.bool data4),(6,.ra 1 0),(10,.ra 2 0),(11,.ra 4 0),(12,I a7),(23,.bool (decide (a7 < 3)))] ?_
 refine ic h (fun a8 h => ?_) fun a8 h => ?_
 ·refine sk ?_
  refine sN ?_
  refine bk 1 ?_
  refine sN ?_
  refine sN ?_
  obtain ⟨a9,b1,h⟩ := Qdj h
  refine Wp.into (x := .normal) (mkS [(0,.ra 1000 0),(2,sL ctx2),(3,I deep3),(4,.bool data4),(6,.ra 1 0),(10,.ra 2 0),(11,.ra 4 0),(12,I a7),(36,.bool a9)] [(1,K1g s1),(2,.box [I 0,I 0,.nils,.nils]),(4,.box [I a3,I a4,sI a5,.sl (List.map K05 a6)]),(1000,.box [.sl (List.map U8 a0),I a1,I a2])]) ?_ ?_
  ·replace h := b1
   obtain ⟨b2,b3,h⟩ := Qdj h
   rcases is h with ⟨b4,h⟩ | ⟨b4,h⟩
   ·obtain ⟨b5,b6,h⟩ := Qdj h
    refine rgs hc none [oN,oc (I b2),oN,oN,oN,oN,oN,oc (K1j b5),oN,oN,oT] [(0,.ra 1000 0),(2,sL ctx2),(3,I deep3),(4,.bool data4),(6,.ra 1 0),(10,.ra 2 0),(11,.ra 4 0),(12,I a7),(36,.bool (b5.ffault == 0))] (cq (Kfu _ _ b3) K58 (ar 4 b4 (cq (Kea _ _ b6) K4w (ar 3 b4 tv)))) ?_
    obtain rfl := os h
    exact Qd5.mk
   refine rgs hc none [oN,oc (I b2),oN,oN,o_,o_,o_,o_,o_,o_,oF] [(0,.ra 1000 0),(2,sL ctx2),(3,I deep3),(4,.bool data4),(6,.ra 1 0),(10,.ra 2 0),(11,.ra 4 0),(12,I a7),(36,.bool false)] (cq (Kfu _ _ b3) K58 (ar 6 (neT b4) (ai b4 tv))) ?_
   obtain rfl := os h
   exact Qd5.mk
  clear b1
  refine ic h (fun b7 h => ?_) fun b7 h => ?_
  ·refine rs0 hc 2 [(10,.ra 2 0)] [(2,.box [I a3,I a4,sI a5,.sl (List.map K05 a6)]),(1000,.box [.sl (List.map U8 a0),I a1,I a2])] ?_
   refine rt ?_
   obtain rfl := os h
   exact Qdh.ret (fl := [false]) (by kernel_rfl)
  refine sk ?_
  obtain ⟨⟨b8,b9⟩,c1,h⟩ := Qdj h
  obtain ⟨c2,c3,⟨c4,c5⟩,c6,h⟩ := bq2 h
  refine rg hc (rx [[0],[0],[0],[0],[0],[0],[0,3,4,5],[0],[0,3,4,5,6,7],[9],[10]]) [oN,oN,oN,oN,oN,oN,some (.call (sI b8) [.optr [.sl (List.map U8 b9.fb),I b9.fi,I b9.fh],.undef,.undef,.undef] 1),oN,oc (I c2),some (.call (K1d c4) [.optr [.sl (List.map U8 c5.fb),I c5.fi,I c5.fh],.undef,.undef,.undef,.undef] 1),oN] [(0,.ra 1000 0),(2,sL ctx2),(3,I deep3),(4,.bool data4),(6,.ra 1 0),(10,.ra 2 0),(11,.ra 4 0),(12,I a7)] [(1,K1g s1),(2,.box [I 0,I 0,.nils,.nils]),(4,K1c c4),(1000,K1e c5)] (ab (Q75.res (r2 := sI b8) (by simp only [share,Q02,Qeb]) (Q75.shr (Kby _ _ c1))) K3m (cq (K83 _ _ c3) K2c (ab (Kfk _ _ c6) K3y tv))) ?_
  refine K7o hc 3 [(0,.ra 1000 0),(2,sL ctx2),(3,I deep3),(4,.bool data4),(6,.ra 1 0),(10,.ra 2 0),(11,.ra 4 0),(12,I (wr (a7 + 1)))] ?_
  refine Qd1 ?_
  exact (spec_dIn_l0_ih _ _ h c hc)
 refine xt 0 ?_
 refine Qcv ?_
 refine Qd2 ?_
 obtain rfl := os h
 exact iv []
def Kg0 (p : K01 × K02 × LL × Int × Bool) : Option (K00 × K01) :=
 match p with
 | (c0,s1,ctx2,deep3,data4) =>
  (Kbw (c0,s1,2,data4)) >>= fun (a0,a1) =>
  (Kfb (a1,s1,ctx2,a0,deep3)) >>= fun (a2,a3) =>
  (Kfx (c0,s1,ctx2,deep3,data4,a3.fb,a3.fi,a3.fh,a2.fOp,a2.fN,a2.fType,a2.fKids,0)) >>= fun fl => match fl with
  | .inl (a4,a5,a6,a7,a8,a9,b1) =>
   (Kfp ((K00.mk a4 a5 a6 a7),400)) >>= fun b2 =>
   ((
   if (decide (b2 < 0)) = true then
   (Kcd (1,1,[])) >>= fun b3 =>
   some ((b3.fOp,b3.fN,b3.fType,b3.fKids))
   else
   some ((a4,a5,a6,a7))
   ) : Option (Int × Int × (List Int) × (List K00))) >>= fun (b4,b5,b6,b7) =>
   some ((K00.mk b4 b5 b6 b7),(K01.mk a8 a9 b1))
  | .inr r =>
   some r
def Kg1 (p : K01 × K02 × LL × Int × Bool) (r : K00 × K01) : Prop :=
 match p with
 | (c0,s1,ctx2,deep3,data4) => Q75 Tryz.prog 201 [.optr [.sl (List.map U8 c0.fb),I c0.fi,I c0.fh],K1h s1,sL ctx2,I deep3,.bool data4] (.agg [I r.1.fOp,I r.1.fN,.sl (List.map I r.1.fType),.sl (List.map K05 r.1.fKids)]) [.optr [.sl (List.map U8 r.2.fb),I r.2.fi,I r.2.fh],.undef,.undef,.undef,.undef]
theorem Kg2 : ∀ p r,Kg0 p = some r → Kg1 p r := by
 rintro ⟨c0,s1,ctx2,deep3,data4⟩ r h
 unfold Kg0 at h
 refine Q75.bodyO K28 (fn := Tryz.f201) (code := K59) (by kernel_rfl) (by kernel_rfl) (by kernel_rfl) (nt := 53) (by kernel_rfl) (by kernel_rfl) (T := [(0,.ra 1000 0),(1,K1h s1),(2,sL ctx2),(3,I deep3),(4,.bool data4)]) (O := [(1000,K1e c0)]) (by kernel_rfl) (by kernel_rfl) (fun c hc => ?_)
 refine rs hc none [some (.new 1),some (.new 2)] [(0,.ra 1000 0),(2,sL ctx2),(3,I deep3),(4,.bool data4),(6,.ra 1 0),(10,.ra 2 0)] [(1,K1g s1),(2,.box [I 0,I 0,.nils,.nils]),(1000,K1e c0)] tv ?_
 obtain ⟨⟨a0,a1⟩,a2,h⟩ := Qdj h
 obtain ⟨⟨a3,a4⟩,a5,h⟩ := Qdj h
 refine rs hc (rx [[0],[0],[0],[0],[0],[0],[0,3,4,5],[0],[8],[0],[10]]) [oN,oN,oN,oN,oN,oN,some (.call (sI a0) [.optr [.sl (List.map U8 a1.fb),I a1.fi,I a1.fh],.undef,.undef,.undef] 1),oN,some (.call (K1d a3) [.optr [.sl (List.map U8 a4.fb),I a4.fi,I a4.fh],.undef,.undef,.undef,.undef] 1),some (.new 4),oN] [(0,.ra 1000 0),(2,sL ctx2),(3,I deep3),(4,.bool data4),(6,.ra 1 0),(10,.ra 2 0),(11,.ra 4 0)] [(1,K1g s1),(2,.box [I 0,I 0,.nils,.nils]),(4,K1c a3),(1000,K1e a4)] (ad (Q75.res (r2 := sI a0) (by simp only [share,Q02,Qeb]) (Q75.shr (Kby _ _ a2))) K3m (Kfk _ _ a5) K3y tv) ?_
 refine sN ?_
 refine K7p hc 1 [(0,.ra 1000 0),(2,sL ctx2),(3,I deep3),(4,.bool data4),(6,.ra 1 0),(10,.ra 2 0),(11,.ra 4 0),(12,I 0)] ?_
 refine bk 0 ?_
 obtain ⟨fl,a6,h⟩ := Qdj h
 have hL := Kfz _ _ a6 c hc
 refine lp ?_
 rcases fl with ⟨a7,a8,a9,b1,b2,b3,b4⟩ | r
 ·refine WpL.into (e := (.exit 0)) (mkS [(10,.ra 2 0),(11,.ra 4 0)] [(2,.box [I 0,I 0,.nils,.nils]),(4,.box [I a7,I a8,sI a9,.sl (List.map K05 b1)]),(1000,.box [.sl (List.map U8 b2),I b3,I b4])]) hL ?_
  refine Qcx ?_
  refine sN ?_
  obtain ⟨b5,b6,h⟩ := Qdj h
  refine rss hc none [oN,oc (I b5),oN] [(10,.ra 2 0),(11,.ra 4 0),(50,.bool (decide (b5 < 0)))] (cq (Kfu _ _ b6) K58 tv) ?_
  obtain ⟨⟨b7,b8,b9,c1⟩,c2,h⟩ := Qdj h
  refine Wp.into (x := .normal) (mkS [(10,.ra 2 0),(11,.ra 4 0)] [(2,.box [I 0,I 0,.nils,.nils]),(4,.box [I b7,I b8,sI b9,.sl (List.map K05 c1)]),(1000,.box [.sl (List.map U8 b2),I b3,I b4])]) ?_ ?_
  ·replace h := c2
   refine ic h (fun c3 h => ?_) fun c3 h => ?_
   ·obtain ⟨c4,c5,h⟩ := Qdj h
    refine rg hc none [oc (K1d c4),oN] [(10,.ra 2 0),(11,.ra 4 0)] [(2,.box [I 0,I 0,.nils,.nils]),(4,K1c c4),(1000,.box [.sl (List.map U8 b2),I b3,I b4])] (cq (Q75.args (A1 := [I 1,I 1,.sl []]) (A2 := [I 1,I 1,.sl (List.map K05 [])]) (by simp only [List.map_nil]) (Kcf _ _ c5)) K3u tv) ?_
    obtain ⟨rfl,hq0⟩ := Prod.mk.inj (Option.some.inj h)
    obtain ⟨rfl,hq1⟩ := Prod.mk.inj (hq0)
    obtain ⟨rfl,rfl⟩ := Prod.mk.inj (hq1)
    exact Qd5.mk
   refine sk ?_
   obtain ⟨rfl,hq0⟩ := Prod.mk.inj (Option.some.inj h)
   obtain ⟨rfl,hq1⟩ := Prod.mk.inj (hq0)
   obtain ⟨rfl,rfl⟩ := Prod.mk.inj (hq1)
   exact iv []
  clear c2
  refine rs0 hc 2 [(10,.ra 2 0)] [(2,.box [I b7,I b8,sI b9,.sl (List.map K05 c1)]),(1000,.box [.sl (List.map U8 b2),I b3,I b4])] ?_
  refine rt ?_
  obtain rfl := os h
  exact Qdg.ret (fl := [false]) (by kernel_rfl)
 refine WpL.mono hL ?_
 rintro _ _ ⟨rfl,hfin⟩
 obtain rfl := os h
 exact ⟨.inl rfl,hfin⟩
def Kg3 (p : K01 × Int × Int × Bool) : Option (K02 × LL × K00 × K01) :=
 match p with
 | (c0,deep1,most2,data3) =>
  (Kbm c0) >>= fun (a0,a1) =>
  (Kc3 (a1,a0,most2,data3)) >>= fun (a2,a3) =>
  (Kg0 (a3,a0,a2,deep1,data3)) >>= fun (a4,a5) =>
  some (a0,a2,a4,a5)
def Kg4 (p : K01 × Int × Int × Bool) (r : K02 × LL × K00 × K01) : Prop :=
 match p with
 | (c0,deep1,most2,data3) => Q75 Tryz.prog 137 [.optr [.sl (List.map U8 c0.fb),I c0.fi,I c0.fh],I deep1,I most2,.bool data3] (.tup [.agg [I r.1.fSize,.sl (List.map I r.1.fPlus),.sl (List.map I r.1.fTimes),.sl (List.map AV.bool r.1.fBelow)],.sl (List.map K0q r.2.1),.agg [I r.2.2.1.fOp,I r.2.2.1.fN,.sl (List.map I r.2.2.1.fType),.sl (List.map K05 r.2.2.1.fKids)]]) [.optr [.sl (List.map U8 r.2.2.2.fb),I r.2.2.2.fi,I r.2.2.2.fh],.undef,.undef,.undef]
theorem Kg5 : ∀ p r,Kg3 p = some r → Kg4 p r := by
 rintro ⟨c0,deep1,most2,data3⟩ r h
 unfold Kg3 at h
 refine Q75.bodyO K28 (fn := Tryz.f137) (code := K5b) (by kernel_rfl) (by kernel_rfl) (by kernel_rfl) (nt := 28) (by kernel_rfl) (by kernel_rfl) (T := [(0,.ra 1000 0),(1,I deep1),(2,I most2),(3,.bool data3)]) (O := [(1000,K1e c0)]) (by kernel_rfl) (by kernel_rfl) (fun c hc => ?_)
 refine rs hc none [some (.new 1),oN,some (.new 2)] [(0,.ra 1000 0),(1,I deep1),(2,I most2),(3,.bool data3),(8,.ra 1 0),(10,.ra 2 0)] [(1,.box [I 0,.nils,.nils,.nils]),(2,.box [I 0,I 0,.nils,.nils]),(1000,K1e c0)] tv ?_
 obtain ⟨⟨a0,a1⟩,a2,h⟩ := Qdj h
 refine rs hc none [oN,some (.call (K1o a0) [.optr [.sl (List.map U8 a1.fb),I a1.fi,I a1.fh]] 3),some (.new 6),oN] [(0,.ra 1000 0),(1,I deep1),(2,I most2),(3,.bool data3),(8,.ra 1 0),(10,.ra 2 0),(11,.ra 6 0)] [(1,.box [I 0,.nils,.nils,.nils]),(2,.box [I 0,I 0,.nils,.nils]),(3,rI a0.fPlus),(4,rI a0.fTimes),(5,.arr (List.map AV.bool a0.fBelow)),(6,.box [I a0.fSize,.rs 3,.rs 4,.rs 5]),(1000,K1e a1)] (ab (Kbo _ _ a2) K3l tv) ?_
 refine sN ?_
 refine vz 3 (Qeb a0.fPlus) [(0,.ra 1000 0),(1,I deep1),(2,I most2),(3,.bool data3),(8,.ra 1 0),(10,.ra 2 0),(11,.ra 6 0)] [(1,.box [I 0,.nils,.nils,.nils]),(2,.box [I 0,I 0,.nils,.nils]),(4,rI a0.fTimes),(5,.arr (List.map AV.bool a0.fBelow)),(6,.box [I a0.fSize,sI a0.fPlus,.rs 4,.rs 5]),(1000,K1e a1)] ?_
 refine vz 4 (Qeb a0.fTimes) [(0,.ra 1000 0),(1,I deep1),(2,I most2),(3,.bool data3),(8,.ra 1 0),(10,.ra 2 0),(11,.ra 6 0)] [(1,.box [I 0,.nils,.nils,.nils]),(2,.box [I 0,I 0,.nils,.nils]),(5,.arr (List.map AV.bool a0.fBelow)),(6,.box [I a0.fSize,sI a0.fPlus,sI a0.fTimes,.rs 5]),(1000,K1e a1)] ?_
 refine vz 5 (Qed a0.fBelow) [(0,.ra 1000 0),(1,I deep1),(2,I most2),(3,.bool data3),(8,.ra 1 0),(10,.ra 2 0),(11,.ra 6 0)] [(1,.box [I 0,.nils,.nils,.nils]),(2,.box [I 0,I 0,.nils,.nils]),(6,K1g a0),(1000,K1e a1)] ?_
 obtain ⟨⟨a3,a4⟩,a5,h⟩ := Qdj h
 refine rg hc none [oN,oN,oN,oN,some (.call (.osl (List.map K0m a3)) [.optr [.sl (List.map U8 a4.fb),I a4.fi,I a4.fh],.undef,.undef,.undef] 7),oN] [(0,.ra 1000 0),(1,I deep1),(3,.bool data3),(8,.ra 1 0),(10,.ra 2 0),(11,.ra 6 0),(12,.rs 7)] [(1,.box [I 0,.nils,.nils,.nils]),(2,.box [I 0,I 0,.nils,.nils]),(6,K1g a0),(7,.arr (List.map K0m a3)),(1000,K1e a4)] (ab (Kc5 _ _ a5) K3q tv) ?_
 refine sN ?_
 refine vz 7 (K0v a3) [(0,.ra 1000 0),(1,I deep1),(3,.bool data3),(8,.ra 1 0),(10,.ra 2 0),(11,.ra 6 0),(12,sL a3)] [(1,.box [I 0,.nils,.nils,.nils]),(2,.box [I 0,I 0,.nils,.nils]),(6,K1g a0),(1000,K1e a4)] ?_
 obtain ⟨⟨a6,a7⟩,a8,h⟩ := Qdj h
 refine rg hc (rx [[0],[0],[0],[0],[0],[0],[0],[0,2,3,4,5,6],[1,2,3,4,5,6,7],[9],[10]]) [oN,oN,oN,oN,oN,oN,oN,some (.call (K1d a6) [.optr [.sl (List.map U8 a7.fb),I a7.fi,I a7.fh],.undef,.undef,.undef,.undef] 1),oN,oN,oN] [(8,.ra 1 0),(9,sL a3),(10,.ra 2 0)] [(1,K1g a0),(2,K1c a6),(1000,K1e a7)] (ab (Kg2 _ _ a8) K5a tv) ?_
 refine rt ?_
 obtain rfl := os h
 exact Qdg.ret (fl := [false,false,false]) (by kernel_rfl)
def Kg6 (op0 : Int) : Option (Bool) :=
 ((
 if (op0 == 5) = true then
 some (true)
 else
 if (op0 == 8) = true then
 some (true)
 else
 if (op0 == 9) = true then
 some (true)
 else
 if (op0 == 11) = true then
 some (true)
 else
 some ((op0 == 12))
 ) : Option (Bool)) >>= fun a0 =>
 some a0
def Kg7 (op0 : Int) (r : Bool) : Prop :=
 Q75 Tryz.prog 225 [I op0] (.bool r) []
theorem Kg8 : ∀ p r,Kg6 p = some r → Kg7 p r := by
 rintro op0 r h
 unfold Kg6 at h
 refine b0 Tryz.f225 K5d 21 [(0,I op0)] fun c hc => ?_
 refine rs0 hc 1 [(0,I op0)] [] ?_
 refine sN ?_
 obtain ⟨a0,a1,h⟩ := Qdj h
 refine Wp.into (x := .normal) (mkS [(2,.bool a0)] []) ?_ ?_
 ·replace h := a1
  rcases is h with ⟨a2,h⟩ | ⟨a2,h⟩
  ·refine rg hc none [oN,oN,oN,o_,o_,oT,oN,o_,o_,oT,oN,o_,o_,oT,oN,o_,o_,oT,oN] [(2,.bool true)] [] (ar 2 (neF a2) (ai a2 (ar 2 nf (ai tt (ar 2 nf (ai tt (ar 2 nf (ai tt tv)))))))) ?_
   obtain rfl := os h
   exact Qd5.mk
  rcases is h with ⟨a3,h⟩ | ⟨a3,h⟩
  ·refine rg hc none [oN,oN,oN,oN,oN,oF,oN,o_,o_,oT,oN,o_,o_,oT,oN,o_,o_,oT,oN] [(2,.bool true)] [] (ar 3 a2 (ar 2 (neF a3) (ai a3 (ar 2 nf (ai tt (ar 2 nf (ai tt tv))))))) ?_
   obtain rfl := os h
   exact Qd5.mk
  rcases is h with ⟨a4,h⟩ | ⟨a4,h⟩
  ·refine rg hc none [oN,oN,oN,oN,oN,oF,oN,oN,oN,oF,oN,o_,o_,oT,oN,o_,o_,oT,oN] [(2,.bool true)] [] (ar 3 a2 (ar 3 a3 (ar 2 (neF a4) (ai a4 (ar 2 nf (ai tt tv)))))) ?_
   obtain rfl := os h
   exact Qd5.mk
  rcases is h with ⟨a5,h⟩ | ⟨a5,h⟩
  ·refine rg hc none [oN,oN,oN,oN,oN,oF,oN,oN,oN,oF,oN,oN,oN,oF,oN,o_,o_,oT,oN] [(2,.bool true)] [] (ar 3 a2 (ar 3 a3 (ar 3 a4 (ar 2 (neF a5) (ai a5 tv))))) ?_
   obtain rfl := os h
   exact Qd5.mk
  refine rg hc none [oN,oN,oN,oN,oN,oF,oN,oN,oN,oF,oN,oN,oN,oF,oN,oN,oN,oF,oN] [(2,.bool (op0 == 12))] [] (ar 3 a2 (ar 3 a3 (ar 3 a4 (ar 3 a5 tv)))) ?_
  obtain rfl := os h
  exact Qd5.mk
 clear a1
 refine rt ?_
 obtain rfl := os h
 exact rq [true]
def Kg9 (p : Bool × Int) : Option (Int) :=
 match p with
 | (arrow0,g1) =>
  ((
  if arrow0 = true then
  some ((decide (g1 < 0)))
  else
  some (false)
  ) : Option (Bool)) >>= fun a0 =>
  if a0 = true then
  some 35
  else
  if arrow0 = true then
  some (wr (3 + g1))
  else
  if (decide (g1 < 0)) = true then
  some 36
  else
  some (wr (19 + g1))
def Kga (p : Bool × Int) (r : Int) : Prop :=
 match p with
 | (arrow0,g1) => Q75 Tryz.prog 226 [.bool arrow0,I g1] (I r) []
theorem Kgb : ∀ p r,Kg9 p = some r → Kga p r := by
 rintro ⟨arrow0,g1⟩ r h
 unfold Kg9 at h
 refine b0 Tryz.f226 K5f 20 [(0,.bool arrow0),(1,I g1)] fun c hc => ?_
 refine rs0 hc 1 [(0,.bool arrow0),(1,I g1)] [] ?_
 refine sN ?_
 refine bk 0 ?_
 refine sN ?_
 obtain ⟨a0,a1,h⟩ := Qdj h
 refine Wp.into (x := .normal) (mkS [(0,.bool arrow0),(1,I g1),(5,.bool a0)] []) ?_ ?_
 ·replace h := a1
  rcases is h with ⟨a2,h⟩ | ⟨a2,h⟩
  ·refine rg hc none [oN,oN,oN,oN,oT,oN] [(0,.bool arrow0),(1,I g1),(5,.bool (decide (g1 < 0)))] [] (ar 3 a2 tv) ?_
   obtain rfl := os h
   exact Qd5.mk
  refine rg hc none [oN,oN,o_,o_,oF,oN] [(0,.bool arrow0),(1,I g1),(5,.bool false)] [] (ar 2 (neT a2) (ai a2 tv)) ?_
  obtain rfl := os h
  exact Qd5.mk
 clear a1
 refine ic h (fun a3 h => ?_) fun a3 h => ?_
 ·refine rs0 hc 1 [(4,I 35)] [] ?_
  refine rt ?_
  obtain rfl := os h
  exact rq [true]
 refine rs0 hc 2 [(1,I g1),(11,.bool arrow0)] [] ?_
 refine ic h (fun a4 h => ?_) fun a4 h => ?_
 ·refine rs0 hc 3 [(4,I (wr (3 + g1)))] [] ?_
  refine rt ?_
  obtain rfl := os h
  exact rq [true]
 refine rs0 hc 3 [(1,I g1),(15,.bool (decide (g1 < 0)))] [] ?_
 refine ic h (fun a5 h => ?_) fun a5 h => ?_
 ·refine rs0 hc 1 [(4,I 36)] [] ?_
  refine rt ?_
  obtain rfl := os h
  exact rq [true]
 refine sk ?_
 refine rs0 hc 3 [(4,I (wr (19 + g1)))] [] ?_
 refine rt ?_
 obtain rfl := os h
 exact rq [true]
def Kgc (c : Ctx) (t1 : K00) (a0 : Int) : (List Int) × Int × Int × (List Int) → Exit → Q0a → Prop
 | (a1,a2,a3,a4) => Qd5 c (.exit 0) (mkS [(0,.ra 1000 0),(3,.ra 1 0),(4,.ra 2 0),(5,.ra 3 0)] [(1,K1c t1),(2,.box [I 0,I 0,.nils,.nils]),(3,.box [I t1.fOp,I a0,.rs 6,.nils]),(6,rI a4),(1000,.box [.sl (List.map U8 a1),I a2,I a3])])
def Kgd (c : Ctx) (t1 : K00) (a0 : Int) (a1 : List Int) : (List K00) × (List Int) × Int × Int → Exit → Q0a → Prop
 | (a2,a3,a4,a5) => Qd5 c (.exit 2) (mkS [(4,.ra 2 0),(5,.ra 3 0)] [(2,.box [I 0,I 0,.nils,.nils]),(3,.box [I t1.fOp,I a0,.rs 6,.rs 16]),(6,rI a1),(16,.arr (List.map K08 a2)),(1000,.box [.sl (List.map U8 a3),I a4,I a5])])
def Kge (p : K00 × Int × (List Int) × Int × Int × (List Int) × Int) : Option ((List Int) × Int × Int × (List Int)) :=
 match p with
 | (t1,a0,a1,a2,a3,a4,a5) =>
  if (decide (a5 < (t1.fType.length : Int))) = true then
  (idx t1.fType a5) >>= fun a6 =>
  ((
  (Kcm a6) >>= fun a7 =>
  if (decide (a7 > 0)) = true then
  if (decide (a6 > 2)) = true then
  (K8a ((K01.mk a1 a2 a3),3)) >>= fun (a8,a9) =>
  some ((a9.fb,a9.fi,a9.fh,(decide (a8 > 0))))
  else
  some ((a1,a2,a3,false))
  else
  some ((a1,a2,a3,false))
  ) : Option ((List Int) × Int × Int × Bool)) >>= fun (b1,b2,b3,b4) =>
  ((
  if b4 = true then
  (Kcg a6) >>= fun b5 =>
  (Kg9 (b5,(-1))) >>= fun b6 =>
  some (b6)
  else
  some (a6)
  ) : Option (Int)) >>= fun b7 =>
  (Qdw (a4.length + [b7].length) 8) >>= fun _ =>
  Kge (t1,a0,b1,b2,b3,(a4 ++ [b7]),(wr (a5 + 1)))
  else
  some ((a1,a2,a3,a4))
 partial_fixpoint
def Kgf (p : K00 × Int × (List Int) × Int × Int × (List Int) × Int) (fl : (List Int) × Int × Int × (List Int)) : Prop :=
 match p with
 | (t1,a0,a1,a2,a3,a4,a5) => ∀ c : Ctx,c.nt = 81 → WpL Tryz.prog c (cl (cl (cr (cl (cr (cr (cr K5h))))))) (Kgc c t1 a0 fl) (mkS [(0,.ra 1000 0),(3,.ra 1 0),(4,.ra 2 0),(5,.ra 3 0),(6,I a5)] [(1,K1c t1),(2,.box [I 0,I 0,.nils,.nils]),(3,.box [I t1.fOp,I a0,.rs 6,.nils]),(6,rI a4),(1000,.box [.sl (List.map U8 a1),I a2,I a3])])
theorem Kgg : ∀ p r,Kge p = some r → Kgf p r := by
 refine Kge.partial_correctness Kgf ?_
 rintro spec_dOpen_l0_f spec_dOpen_l0_ih ⟨t1,a0,a1,a2,a3,a4,a5⟩ r h
 intro c hc
 refine WpL.step ?_
 refine sN ?_
 refine rss hc none [oN,oN,oN,some (.eqv (.no) ⟨[(31,I (t1.fType.length : Int))],[],[]⟩),oN] [(0,.ra 1000 0),(3,.ra 1 0),(4,.ra 2 0),(5,.ra 3 0),(6,I a5),(32,.bool (decide (a5 < (t1.fType.length : Int))))] (ai (Qdp (d := 31) I t1.fType) tv) ?_
 refine ic h (fun a6 h => ?_) fun a6 h => ?_
 ·refine sk ?_
  refine sN ?_
  refine bk 1 ?_
  obtain ⟨a7,a8,h⟩ := Qdj h
  refine rss hc none [oN,oN,oN,some (.el (I a7)),oN,oN] [(0,.ra 1000 0),(3,.ra 1 0),(4,.ra 2 0),(5,.ra 3 0),(6,I a5),(7,I a7)] (ai (ix a8) tv) ?_
  refine sN ?_
  refine sN ?_
  obtain ⟨⟨a9,b1,b2,b3⟩,b4,h⟩ := Qdj h
  refine Wp.into (x := .normal) (mkS [(0,.ra 1000 0),(3,.ra 1 0),(4,.ra 2 0),(5,.ra 3 0),(6,I a5),(7,I a7),(51,.bool b3)] [(1,K1c t1),(2,.box [I 0,I 0,.nils,.nils]),(3,.box [I t1.fOp,I a0,.rs 6,.nils]),(6,rI a4),(1000,.box [.sl (List.map U8 a9),I b1,I b2])]) ?_ ?_
  ·replace h := b4
   obtain ⟨b5,b6,h⟩ := Qdj h
   rcases is h with ⟨b7,h⟩ | ⟨b7,h⟩
   ·rcases is h with ⟨b8,h⟩ | ⟨b8,h⟩
    ·obtain ⟨⟨b9,c0⟩,c1,h⟩ := Qdj h
     refine rg hc none [oN,oc (I b5),oN,oN,oN,oN,oT,oN,oN,some (.call (I b9) [.optr [.sl (List.map U8 c0.fb),I c0.fi,I c0.fh],.undef] 1),oN,oT] [(0,.ra 1000 0),(3,.ra 1 0),(4,.ra 2 0),(5,.ra 3 0),(6,I a5),(7,I a7),(51,.bool (decide (b9 > 0)))] [(1,K1c t1),(2,.box [I 0,I 0,.nils,.nils]),(3,.box [I t1.fOp,I a0,.rs 6,.nils]),(6,rI a4),(1000,K1e c0)] (cq (Kco _ _ b6) K44 (ar 3 b7 (ar 2 b8 (ab (K8c _ _ c1) K2h (ar 2 b8 tv))))) ?_
     obtain ⟨rfl,hq0⟩ := Prod.mk.inj (Option.some.inj h)
     obtain ⟨rfl,hq1⟩ := Prod.mk.inj (hq0)
     obtain ⟨rfl,rfl⟩ := Prod.mk.inj (hq1)
     exact Qd5.mk
    refine rgs hc none [oN,oc (I b5),oN,oN,oN,oN,oT,oN,o_,o_,o_,oF] [(0,.ra 1000 0),(3,.ra 1 0),(4,.ra 2 0),(5,.ra 3 0),(6,I a5),(7,I a7),(51,.bool false)] (cq (Kco _ _ b6) K44 (ar 3 b7 (ar 3 (neT b8) (ai b8 tv)))) ?_
    obtain ⟨rfl,hq0⟩ := Prod.mk.inj (Option.some.inj h)
    obtain ⟨rfl,hq1⟩ := Prod.mk.inj (hq0)
    obtain ⟨rfl,rfl⟩ := Prod.mk.inj (hq1)
    exact Qd5.mk
   refine rgs hc none [oN,oc (I b5),oN,oN,o_,o_,oF,oN,o_,o_,o_,oF] [(0,.ra 1000 0),(3,.ra 1 0),(4,.ra 2 0),(5,.ra 3 0),(6,I a5),(7,I a7),(51,.bool false)] (cq (Kco _ _ b6) K44 (ar 2 (neT b7) (ai b7 (ar 3 (neT (rfl : false = false)) (ai (rfl : false = false) tv))))) ?_
   obtain ⟨rfl,hq0⟩ := Prod.mk.inj (Option.some.inj h)
   obtain ⟨rfl,hq1⟩ := Prod.mk.inj (hq0)
   obtain ⟨rfl,rfl⟩ := Prod.mk.inj (hq1)
   exact Qd5.mk
  clear b4
  obtain ⟨c2,c3,h⟩ := Qdj h
  refine Wp.into (x := .normal) (mkS [(0,.ra 1000 0),(3,.ra 1 0),(4,.ra 2 0),(5,.ra 3 0),(6,I a5),(7,I c2)] [(1,K1c t1),(2,.box [I 0,I 0,.nils,.nils]),(3,.box [I t1.fOp,I a0,.rs 6,.nils]),(6,rI a4),(1000,.box [.sl (List.map U8 a9),I b1,I b2])]) ?_ ?_
  ·replace h := c3
   refine ic h (fun c4 h => ?_) fun c4 h => ?_
   ·obtain ⟨c5,c6,c7,c8,h⟩ := bq2 h
    refine rgs hc none [oN,oc (.bool c5),oc (I c7),oN] [(0,.ra 1000 0),(3,.ra 1 0),(4,.ra 2 0),(5,.ra 3 0),(6,I a5),(7,I c7)] (cq (Kci _ _ c6) K40 (cq (Kgb _ _ c8) K5g tv)) ?_
    obtain rfl := os h
    exact Qd5.mk
   refine sk ?_
   obtain rfl := os h
   exact iv []
  clear c3
  obtain ⟨_,c9,h⟩ := Qdj h
  refine rg hc none [oN,oN,oN,some (.mk 9 true),some (.eqv (.mk 10 true) ⟨[(59,.rs 10)],[(10,some (rI (a4 ++ [c2]))),(6,none),(9,none)],[10]⟩),oN,oN] [(0,.ra 1000 0),(3,.ra 1 0),(4,.ra 2 0),(5,.ra 3 0),(6,I a5)] [(1,K1c t1),(2,.box [I 0,I 0,.nils,.nils]),(3,.box [I t1.fOp,I a0,.rs 10,.nils]),(10,rI (a4 ++ [c2])),(1000,.box [.sl (List.map U8 a9),I b1,I b2])] (ab (congrArg (fun z => (⟨[(59,.rs 10)],[(10,some (.arr z)),(6,none),(9,none)],[10]⟩ : Wr)) ((List.map_append).symm : (List.map I a4) ++ (List.map I [c2]) = List.map I (a4 ++ [c2]))) (Qdx (enc1 := I) (enc2 := I) (e1 := a4) (e2 := [c2]) (sz := 1) Qe6 Qe6 c9) tv) ?_
  refine K7o hc 3 [(0,.ra 1000 0),(3,.ra 1 0),(4,.ra 2 0),(5,.ra 3 0),(6,I (wr (a5 + 1)))] ?_
  refine Qd1 ?_
  exact WpL.view (fun a w hv => SRx.renL [(6,10)] hv (by kernel_rfl) (by kernel_rfl) (by kernel_rfl)) (spec_dOpen_l0_ih _ _ h c hc)
 refine xt 0 ?_
 refine Qcv ?_
 refine Qd2 ?_
 obtain ⟨rfl,hq0⟩ := Prod.mk.inj (Option.some.inj h)
 obtain ⟨rfl,hq1⟩ := Prod.mk.inj (hq0)
 obtain ⟨rfl,rfl⟩ := Prod.mk.inj (hq1)
 exact iv []
mutual
def Kgh (p : K01 × K00) : Option (K00 × K01) :=
 match p with
 | (c0,t1) =>
  ((
  (Kg6 t1.fOp) >>= fun a0 =>
  if a0 = true then
  if (t1.fOp != 12) = true then
  (K8a (c0,3)) >>= fun (a1,a2) =>
  some ((a2.fb,a2.fi,a2.fh,(decide (a1 > 0))))
  else
  some ((c0.fb,c0.fi,c0.fh,false))
  else
  some ((c0.fb,c0.fi,c0.fh,false))
  ) : Option ((List Int) × Int × Int × Bool)) >>= fun (a3,a4,a5,a6) =>
  ((
  if a6 = true then
  some ((-1))
  else
  some (t1.fN)
  ) : Option (Int)) >>= fun a7 =>
  (Kge (t1,a7,a3,a4,a5,[],0)) >>= fun (a8,a9,b1,b2) =>
  (Kgi (t1,a7,b2,a8,a9,b1,[],0)) >>= fun (b3,b4,b5,b6) =>
  some ((K00.mk t1.fOp a7 b2 b3),(K01.mk b4 b5 b6))
 partial_fixpoint
def Kgi (p : K00 × Int × (List Int) × (List Int) × Int × Int × (List K00) × Int) : Option ((List K00) × (List Int) × Int × Int) :=
 match p with
 | (t1,a0,a1,a2,a3,a4,a5,a6) =>
  if (decide (a6 < (t1.fKids.length : Int))) = true then
  (idx t1.fKids a6) >>= fun a7 =>
  (Kgh ((K01.mk a2 a3 a4),a7)) >>= fun (a8,a9) =>
  (Qdw (a5.length + [a8].length) 64) >>= fun _ =>
  Kgi (t1,a0,a1,a9.fb,a9.fi,a9.fh,(a5 ++ [a8]),(wr (a6 + 1)))
  else
  some ((a5,a2,a3,a4))
 partial_fixpoint
end
def Kgj (p : K01 × K00) (r : K00 × K01) : Prop :=
 match p with
 | (c0,t1) => Q75 Tryz.prog 187 [.optr [.sl (List.map U8 c0.fb),I c0.fi,I c0.fh],K1d t1] (.agg [I r.1.fOp,I r.1.fN,.osl (List.map I r.1.fType),.osl (List.map K08 r.1.fKids)]) [.optr [.sl (List.map U8 r.2.fb),I r.2.fi,I r.2.fh],.undef]
def Kgk (p : K00 × Int × (List Int) × (List Int) × Int × Int × (List K00) × Int) (fl : (List K00) × (List Int) × Int × Int) : Prop :=
 match p with
 | (t1,a0,a1,a2,a3,a4,a5,a6) => ∀ c : Ctx,c.nt = 81 → WpL Tryz.prog c (cl (cl (cr (cl (cr (cr (cr (cr K5h)))))))) (Kgd c t1 a0 a1 fl) (mkS [(0,.ra 1000 0),(3,.ra 1 0),(4,.ra 2 0),(5,.ra 3 0),(8,I a6)] [(1,K1c t1),(2,.box [I 0,I 0,.nils,.nils]),(3,.box [I t1.fOp,I a0,.rs 6,.rs 16]),(6,rI a1),(16,.arr (List.map K08 a5)),(1000,.box [.sl (List.map U8 a2),I a3,I a4])])
theorem Kgl : (∀ p r,Kgh p = some r → Kgj p r) ∧ (∀ p r,Kgi p = some r → Kgk p r) := by
 refine Kgh.mutual_partial_correctness Kgj Kgk ?_ ?_
 ·rintro spec_dOpen_l1_f spec_dOpen_l1_ih ⟨c0,t1⟩ r h
  refine Q75.bodyO K28 (fn := Tryz.f187) (code := K5h) (by kernel_rfl) (by kernel_rfl) (by kernel_rfl) (nt := 81) (by kernel_rfl) (by kernel_rfl) (T := [(0,.ra 1000 0),(1,K1d t1)]) (O := [(1000,K1e c0)]) (by kernel_rfl) (by kernel_rfl) (fun c hc => ?_)
  refine rs hc none [some (.new 1),some (.new 2)] [(0,.ra 1000 0),(3,.ra 1 0),(4,.ra 2 0)] [(1,K1c t1),(2,.box [I 0,I 0,.nils,.nils]),(1000,K1e c0)] tv ?_
  refine rs hc none [oN,oN,oN,oN,oN,some (.new 3),oN] [(0,.ra 1000 0),(3,.ra 1 0),(4,.ra 2 0),(5,.ra 3 0)] [(1,K1c t1),(2,.box [I 0,I 0,.nils,.nils]),(3,.box [I t1.fOp,I t1.fN,.nils,.nils]),(1000,K1e c0)] tv ?_
  refine sN ?_
  refine sN ?_
  obtain ⟨⟨a0,a1,a2,a3⟩,a4,h⟩ := Qdj h
  refine Wp.into (x := .normal) (mkS [(0,.ra 1000 0),(3,.ra 1 0),(4,.ra 2 0),(5,.ra 3 0),(26,.bool a3)] [(1,K1c t1),(2,.box [I 0,I 0,.nils,.nils]),(3,.box [I t1.fOp,I t1.fN,.nils,.nils]),(1000,.box [.sl (List.map U8 a0),I a1,I a2])]) ?_ ?_
  ·replace h := a4
   obtain ⟨a5,a6,h⟩ := Qdj h
   rcases is h with ⟨a7,h⟩ | ⟨a7,h⟩
   ·rcases is h with ⟨a8,h⟩ | ⟨a8,h⟩
    ·obtain ⟨⟨a9,b1⟩,b2,h⟩ := Qdj h
     refine rg hc none [oN,oN,oc (.bool a5),oN,oN,oN,oN,oT,oN,oN,some (.call (I a9) [.optr [.sl (List.map U8 b1.fb),I b1.fi,I b1.fh],.undef] 1),oN,oT] [(0,.ra 1000 0),(3,.ra 1 0),(4,.ra 2 0),(5,.ra 3 0),(26,.bool (decide (a9 > 0)))] [(1,K1c t1),(2,.box [I 0,I 0,.nils,.nils]),(3,.box [I t1.fOp,I t1.fN,.nils,.nils]),(1000,K1e b1)] (cq (Kg8 _ _ a6) K5e (ar 4 a7 (ar 2 a8 (ab (K8c _ _ b2) K2h (ar 2 a8 tv))))) ?_
     obtain ⟨rfl,hq0⟩ := Prod.mk.inj (Option.some.inj h)
     obtain ⟨rfl,hq1⟩ := Prod.mk.inj (hq0)
     obtain ⟨rfl,rfl⟩ := Prod.mk.inj (hq1)
     exact Qd5.mk
    refine rgs hc none [oN,oN,oc (.bool a5),oN,oN,oN,oN,oT,oN,o_,o_,o_,oF] [(0,.ra 1000 0),(3,.ra 1 0),(4,.ra 2 0),(5,.ra 3 0),(26,.bool false)] (cq (Kg8 _ _ a6) K5e (ar 4 a7 (ar 3 (neT a8) (ai a8 tv)))) ?_
    obtain ⟨rfl,hq0⟩ := Prod.mk.inj (Option.some.inj h)
    obtain ⟨rfl,hq1⟩ := Prod.mk.inj (hq0)
    obtain ⟨rfl,rfl⟩ := Prod.mk.inj (hq1)
    exact Qd5.mk
   refine rgs hc none [oN,oN,oc (.bool a5),oN,o_,o_,o_,oF,oN,o_,o_,o_,oF] [(0,.ra 1000 0),(3,.ra 1 0),(4,.ra 2 0),(5,.ra 3 0),(26,.bool false)] (cq (Kg8 _ _ a6) K5e (ar 3 (neT a7) (ai a7 (ar 3 (neT (rfl : false = false)) (ai (rfl : false = false) tv))))) ?_
   obtain ⟨rfl,hq0⟩ := Prod.mk.inj (Option.some.inj h)
   obtain ⟨rfl,hq1⟩ := Prod.mk.inj (hq0)
   obtain ⟨rfl,rfl⟩ := Prod.mk.inj (hq1)
   exact Qd5.mk
  clear a4
  obtain ⟨b3,b4,h⟩ := Qdj h
  refine Wp.into (x := .normal) (mkS [(0,.ra 1000 0),(3,.ra 1 0),(4,.ra 2 0),(5,.ra 3 0)] [(1,K1c t1),(2,.box [I 0,I 0,.nils,.nils]),(3,.box [I t1.fOp,I b3,.nils,.nils]),(1000,.box [.sl (List.map U8 a0),I a1,I a2])]) ?_ ?_
  ·replace h := b4
   refine ic h (fun b5 h => ?_) fun b5 h => ?_
   ·refine rg0 hc 2 [(0,.ra 1000 0),(3,.ra 1 0),(4,.ra 2 0),(5,.ra 3 0)] [(1,K1c t1),(2,.box [I 0,I 0,.nils,.nils]),(3,.box [I t1.fOp,I (-1),.nils,.nils]),(1000,.box [.sl (List.map U8 a0),I a1,I a2])] ?_
    obtain rfl := os h
    exact Qd5.mk
   refine sk ?_
   obtain rfl := os h
   exact iv []
  clear b4
  refine sN ?_
  refine K7p hc 1 [(0,.ra 1000 0),(3,.ra 1 0),(4,.ra 2 0),(5,.ra 3 0),(6,I 0)] ?_
  refine bk 0 ?_
  obtain ⟨⟨b6,b7,b8,b9⟩,c1,h⟩ := Qdj h
  have hL := Kgg _ _ c1 c hc
  refine Wp.loopN (by kernel_rfl) (WpL.view (fun a w hv => SRx.renL [(6,11)] (SRx.nilBL 3 2 11 [I t1.fOp,I b3,.nils,.nils] hv (by kernel_rfl) (by kernel_rfl) (by kernel_rfl)) (by kernel_rfl) (by kernel_rfl) (by kernel_rfl)) (?_ : WpL _ c _ _ (mkS [(0,.ra 1000 0),(3,.ra 1 0),(4,.ra 2 0),(5,.ra 3 0),(6,I 0)] [(1,K1c t1),(2,.box [I 0,I 0,.nils,.nils]),(3,.box [I t1.fOp,I b3,.rs 6,.nils]),(6,.arr (List.map I [])),(1000,.box [.sl (List.map U8 a0),I a1,I a2])])))
  refine WpL.into (e := (.exit 0)) (mkS [(0,.ra 1000 0),(3,.ra 1 0),(4,.ra 2 0),(5,.ra 3 0)] [(1,K1c t1),(2,.box [I 0,I 0,.nils,.nils]),(3,.box [I t1.fOp,I b3,.rs 6,.nils]),(6,rI b9),(1000,.box [.sl (List.map U8 b6),I b7,I b8])]) hL ?_
  refine Qcx ?_
  refine sN ?_
  refine K7p hc 1 [(0,.ra 1000 0),(3,.ra 1 0),(4,.ra 2 0),(5,.ra 3 0),(8,I 0)] ?_
  refine bk 2 ?_
  obtain ⟨⟨c2,c3,c4,c5⟩,c6,h⟩ := Qdj h
  have hL := spec_dOpen_l1_ih _ _ c6 c hc
  refine Wp.loopN (by kernel_rfl) (WpL.view (fun a w hv => SRx.renL [(16,25)] (SRx.nilBL 3 3 25 [I t1.fOp,I b3,.rs 6,.nils] hv (by kernel_rfl) (by kernel_rfl) (by kernel_rfl)) (by kernel_rfl) (by kernel_rfl) (by kernel_rfl)) (?_ : WpL _ c _ _ (mkS [(0,.ra 1000 0),(3,.ra 1 0),(4,.ra 2 0),(5,.ra 3 0),(8,I 0)] [(1,K1c t1),(2,.box [I 0,I 0,.nils,.nils]),(3,.box [I t1.fOp,I b3,.rs 6,.rs 16]),(6,rI b9),(16,.arr (List.map K08 [])),(1000,.box [.sl (List.map U8 b6),I b7,I b8])])))
  refine WpL.into (e := (.exit 2)) (mkS [(4,.ra 2 0),(5,.ra 3 0)] [(2,.box [I 0,I 0,.nils,.nils]),(3,.box [I t1.fOp,I b3,.rs 6,.rs 16]),(6,rI b9),(16,.arr (List.map K08 c2)),(1000,.box [.sl (List.map U8 c3),I c4,I c5])]) hL ?_
  refine Qcx ?_
  refine rs0 hc 2 [(4,.ra 2 0)] [(2,.box [I t1.fOp,I b3,.rs 6,.rs 16]),(6,rI b9),(16,.arr (List.map K08 c2)),(1000,.box [.sl (List.map U8 c3),I c4,I c5])] ?_
  refine rt ?_
  obtain rfl := os h
  exact Qdg.ret (fl := [true]) (by kernel_rfl)
 ·rintro spec_dOpen_f spec_dOpen_l1_f spec_dOpen_ih spec_dOpen_l1_ih ⟨t1,b3,b9,c7,c8,c9,d0,d1⟩ r h
  intro c hc
  refine WpL.step ?_
  refine sN ?_
  refine rss hc none [oN,oN,oN,some (.eqv (.no) ⟨[(64,I (t1.fKids.length : Int))],[],[]⟩),oN] [(0,.ra 1000 0),(3,.ra 1 0),(4,.ra 2 0),(5,.ra 3 0),(8,I d1),(65,.bool (decide (d1 < (t1.fKids.length : Int))))] (ai (Qdp (d := 64) K05 t1.fKids) tv) ?_
  refine ic h (fun d2 h => ?_) fun d2 h => ?_
  ·refine sk ?_
   refine sN ?_
   refine bk 3 ?_
   obtain ⟨d3,d4,⟨d5,d6⟩,d7,h⟩ := bq2 h
   obtain ⟨_,d8,h⟩ := Qdj h
   refine rg hc (rx [[0],[1],[0],[0],[0,3],[0],[0,3,4,5],[0,3,4,5,6],[0,2,3,4,5,6,7],[0,2,3,4,5,6,7,8],[10],[11],[12]]) [oN,oN,oN,oN,oN,oN,some (.el (K1d d3)),oN,some (.call (K1k d5) [.optr [.sl (List.map U8 d6.fb),I d6.fi,I d6.fh],.undef] 21),some (.eqv (.mk 23 true) ⟨[(77,.rs 23)],[(23,some (.arr (List.map K08 [d5]))),(21,none),(22,none)],[23]⟩),some (.eqv (.mk 24 true) ⟨[(78,.rs 24)],[(24,some (.arr (List.map K08 (d0 ++ [d5])))),(16,none),(23,none)],[24]⟩),oN,oN] [(0,.ra 1000 0),(3,.ra 1 0),(4,.ra 2 0),(5,.ra 3 0),(8,I d1)] [(1,K1c t1),(2,.box [I 0,I 0,.nils,.nils]),(3,.box [I t1.fOp,I b3,.rs 6,.rs 24]),(6,rI b9),(24,.arr (List.map K08 (d0 ++ [d5]))),(1000,K1e d6)] (ad (Qdn d4 (K0c d3)) (spec_dOpen_ih _ _ d7) K5i (congrArg (fun z => (⟨[(77,.rs 23)],[(23,some (.arr z)),(21,none),(22,none)],[23]⟩ : Wr)) ((Qeq (K0e d5) Qep) : [AV.agg [I d5.fOp,I d5.fN,oI d5.fType,AV.osl (List.map K08 d5.fKids)]] = List.map K08 [d5])) (ab (congrArg (fun z => (⟨[(78,.rs 24)],[(24,some (.arr z)),(16,none),(23,none)],[24]⟩ : Wr)) ((List.map_append).symm : (List.map K08 d0) ++ (List.map K08 [d5]) = List.map K08 (d0 ++ [d5]))) (Qdx (enc1 := K08) (enc2 := K08) (e1 := d0) (e2 := [d5]) (sz := 4) K11 K11 d8) tv)) ?_
   refine K7o hc 3 [(0,.ra 1000 0),(3,.ra 1 0),(4,.ra 2 0),(5,.ra 3 0),(8,I (wr (d1 + 1)))] ?_
   refine Qd1 ?_
   exact WpL.view (fun a w hv => SRx.renL [(16,24)] hv (by kernel_rfl) (by kernel_rfl) (by kernel_rfl)) (spec_dOpen_l1_ih _ _ h c hc)
  refine xt 2 ?_
  refine Qcv ?_
  refine Qd2 ?_
  obtain ⟨rfl,hq0⟩ := Prod.mk.inj (Option.some.inj h)
  obtain ⟨rfl,hq1⟩ := Prod.mk.inj (hq0)
  obtain ⟨rfl,rfl⟩ := Prod.mk.inj (hq1)
  exact iv []
theorem Kgm : ∀ p r,Kgh p = some r → Kgj p r := Kgl.1
theorem Kgn : ∀ p r,Kgi p = some r → Kgk p r := Kgl.2
def Kgo (p : K01 × (List Int)) : Option (Int × K01) :=
 match p with
 | (c0,list1) =>
  (K8a (c0,(list1.length : Int))) >>= fun (a0,a1) =>
  (idx list1 a0) >>= fun a2 =>
  some (a2,a1)
def Kgp (p : K01 × (List Int)) (r : Int × K01) : Prop :=
 match p with
 | (c0,list1) => Q75 Tryz.prog 156 [.optr [.sl (List.map U8 c0.fb),I c0.fi,I c0.fh],sI list1] (I r.1) [.optr [.sl (List.map U8 r.2.fb),I r.2.fi,I r.2.fh],.undef]
theorem Kgq : ∀ p r,Kgo p = some r → Kgp p r := by
 rintro ⟨c0,list1⟩ r h
 unfold Kgo at h
 refine Q75.bodyO K28 (fn := Tryz.f156) (code := K5j) (by kernel_rfl) (by kernel_rfl) (by kernel_rfl) (nt := 12) (by kernel_rfl) (by kernel_rfl) (T := [(0,.ra 1000 0),(1,sI list1)]) (O := [(1000,K1e c0)]) (by kernel_rfl) (by kernel_rfl) (fun c hc => ?_)
 refine K7p hc 1 [(0,.ra 1000 0),(1,sI list1)] ?_
 obtain ⟨⟨a0,a1⟩,a2,h⟩ := Qdj h
 obtain ⟨a3,a4,h⟩ := Qdj h
 refine rs hc none [oN,oN,oN,some (.eqv (.no) ⟨[(8,I (list1.length : Int))],[],[]⟩),some (.call (I a0) [.optr [.sl (List.map U8 a1.fb),I a1.fi,I a1.fh],.undef] 1),some (.el (I a3)),oN,oN] [(4,I a3)] [(1000,K1e a1)] (ad (Qdp (d := 8) I list1) (K8c _ _ a2) K2h (ix a4) tv) ?_
 refine rt ?_
 obtain rfl := os h
 exact Qdg.ret (fl := [true]) (by kernel_rfl)
theorem Kgr {op N : Int} {ty : List Int} {ks : List K00} {enc : K00 → AV} (h : Q02 (List.map enc ks) = List.map K05 ks) : share (AV.agg [I op,I N,oI ty,.osl (List.map enc ks)]) = K05 (K00.mk op N ty ks) :=
 (show share (AV.agg [I op,I N,oI ty,.osl (List.map enc ks)]) = AV.agg [I op,I N,.sl (Q02 (List.map I ty)),.sl (Q02 (List.map enc ks))] from rfl).trans ((by rw [h,Qeb] : AV.agg [I op,I N,.sl (Q02 (List.map I ty)),.sl (Q02 (List.map enc ks))] = AV.agg [I op,I N,sI ty,.sl (List.map K05 ks)]).trans (K0c (K00.mk op N ty ks)).symm)
theorem Kgs (u : K00) : K00.mk u.fOp u.fN u.fType u.fKids = u := by cases u; rfl
end Go.Am
