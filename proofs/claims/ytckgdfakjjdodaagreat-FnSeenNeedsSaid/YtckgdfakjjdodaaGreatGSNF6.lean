/- Walks, printed. -/
import Derived.Test.YtckgdfakjjdodaaGreatGSNF3
set_option linter.unusedVariables false
set_option linter.unusedSimpArgs false
set_option maxRecDepth 100000
namespace Go.Am
open Go Go.Proofs
def Kh5 : Option (List (List Nat)) := rx [[0],[1],[0],[0],[0],[0],[2,5],[0],[0,7],[9],[10],[11],[12]]
def Kh6 : Option (List (List Nat)) := rx [[0],[1],[2],[3],[3],[3],[3],[3,4,5,6],[3],[9],[10],[11]]
def Kh7 : Option (List (List Nat)) := rx [[0],[0],[0],[0,2],[4],[5]]
def Kh8 : Option (List (List Nat)) := rx [[0],[0],[0],[0],[0],[0,2,3,4],[0],[0],[0],[0,2,3,4,5,6,7,8],[0,1,2,3,4,5,6,7,8,9],[11],[12]]
def Kh9 : Option (List (List Nat)) := rx [[0],[0],[0],[0],[0],[0,2,3,4],[6],[7]]
mutual
def Kha (p : K02 × K00 × LL × (List Int) × Int) : Option (K01 × K02) :=
 match p with
 | (c0,s1,ctx2,ty3,deep4) =>
  (Ka9 (c0,5)) >>= fun (a0,a1) =>
  ((
   if (decide (a0 > 1)) = true then
   (Ka9 (a1,(ctx2.length : Int))) >>= fun (a2,a3) =>
   (Kh2 (c0,s1,ctx2,ty3,deep4,a2,a3,0)) >>= fun fl => match fl with
   | .inl () =>
    some (.inl (a3.fb,a3.fi,a3.fh))
   | .inr r =>
    some (.inr r)
   else
   some (.inl (a1.fb,a1.fi,a1.fh))) : Option (((List Int) × Int × Int) ⊕ ((K01 × K02)))) >>= fun fl => match fl with
  | .inl (a4,a5,a6) =>
   ((
   if (decide (deep4 > 0)) = true then
    (Kac ((K02.mk a4 a5 a6),3)) >>= fun (a7,a8) =>
    some ((a8.fb,a8.fi,a8.fh,a7))
   else
    some ((a4,a5,a6,false))
   ) : Option ((List Int) × Int × Int × Bool)) >>= fun (a9,b1,b2,b3) =>
   if b3 = true then
   (Khd ((K02.mk a9 b1 b2),s1,ctx2,ty3,(wr (deep4 - 1)))) >>= fun (b4,b5) =>
   some (b4,b5)
   else
   (idx ty3 0) >>= fun b6 =>
   ((
    if (b6 == 0) = true then
    if (decide (deep4 > 0)) = true then
    (Kac ((K02.mk a9 b1 b2),2)) >>= fun (b7,b8) =>
    some ((b8.fb,b8.fi,b8.fh,b7))
    else
    some ((a9,b1,b2,false))
    else
    some ((a9,b1,b2,false))
   ) : Option ((List Int) × Int × Int × Bool)) >>= fun (b9,c1,c2,c3) =>
   if c3 = true then
    (Kha ((K02.mk b9 c1 c2),s1,ctx2,ty3,(wr (deep4 - 1)))) >>= fun (c4,c5) =>
    (Kha (c5,s1,ctx2,ty3,(wr (deep4 - 1)))) >>= fun (c6,c7) =>
    (Kec (2,0,[c4,c6])) >>= fun c8 =>
    some (c8,c7)
   else
    if (b6 == 0) = true then
    (Ka9 ((K02.mk b9 c1 c2),3)) >>= fun (c9,d0) =>
    (Kec (1,c9,[])) >>= fun d1 =>
    some (d1,d0)
    else
    if (b6 == 1) = true then
    (Key (ty3,0)) >>= fun d2 =>
    (Kha ((K02.mk b9 c1 c2),s1,ctx2,d2,(wr (deep4 - 1)))) >>= fun (d3,d4) =>
    (Key (ty3,1)) >>= fun d5 =>
    (Kha (d4,s1,ctx2,d5,(wr (deep4 - 1)))) >>= fun (d6,d7) =>
    (Kec (4,0,[d3,d6])) >>= fun d8 =>
    some (d8,d7)
    else
    ((
    if (b6 == 2) = true then
    (Kac ((K02.mk b9 c1 c2),2)) >>= fun (d9,e0) =>
    some ((e0.fb,e0.fi,e0.fh,d9))
    else
    some ((b9,c1,c2,false))
    ) : Option ((List Int) × Int × Int × Bool)) >>= fun (e1,e2,e3,e4) =>
    if e4 = true then
    (Key (ty3,1)) >>= fun e5 =>
    (Key (ty3,0)) >>= fun e6 =>
    (Kha ((K02.mk e1 e2 e3),s1,ctx2,e6,(wr (deep4 - 1)))) >>= fun (e7,e8) =>
    some ((K01.mk 6 0 e5 [e7]),e8)
    else
    if (b6 == 2) = true then
    (Key (ty3,0)) >>= fun e9 =>
    (Key (ty3,1)) >>= fun f0 =>
    (Kha ((K02.mk e1 e2 e3),s1,ctx2,f0,(wr (deep4 - 1)))) >>= fun (f1,f2) =>
    some ((K01.mk 7 0 e9 [f1]),f2)
    else
    (Kei b6) >>= fun f3 =>
    if f3 = true then
    (Kf1 b6) >>= fun f4 =>
    (Key (ty3,0)) >>= fun f5 =>
    (Kha ((K02.mk e1 e2 e3),s1,ctx2,f5,(wr (deep4 - 1)))) >>= fun (f6,f7) =>
    (Kec (11,f4,[f6])) >>= fun f8 =>
    some (f8,f7)
    else
    (Khb ((K02.mk e1 e2 e3),s1,ctx2,ty3,deep4)) >>= fun (f9,g0) =>
    some (f9,g0)
  | .inr r =>
   some r
 partial_fixpoint
def Khb (p : K02 × K00 × LL × (List Int) × Int) : Option (K01 × K02) :=
 match p with
 | (c0,s1,ctx2,ty3,deep4) =>
  (Key (ty3,0)) >>= fun a0 =>
  (Key (ty3,1)) >>= fun a1 =>
  (idx ty3 0) >>= fun a2 =>
  (Kf1 a2) >>= fun a3 =>
  (Kf4 (ctx2,[a0])) >>= fun a4 =>
  (Kha (c0,s1,a4,a1,(wr (deep4 - 1)))) >>= fun (a5,a6) =>
  (Khc (s1,deep4,a0,a1,a3,a4,a6.fb,a6.fi,a6.fh,a5.fOp,a5.fN,a5.fType,a5.fKids,0)) >>= fun (a7,a8,a9,b1,b2,b3,b4) =>
  some ((K01.mk 9 a3 a0 [(K01.mk a7 a8 a9 b1)]),(K02.mk b2 b3 b4))
 partial_fixpoint
def Khc (p : K00 × Int × (List Int) × (List Int) × Int × LL × (List Int) × Int × Int × Int × Int × (List Int) × (List K01) × Int) : Option (Int × Int × (List Int) × (List K01) × (List Int) × Int × Int) :=
 match p with
 | (s1,deep4,a0,a1,a2,a3,a4,a5,a6,a7,a8,a9,b1,b2) =>
  ((
  if (decide (b2 < 3)) = true then
  (Kgd (s1,a3,(K01.mk a7 a8 a9 b1),0)) >>= fun b3 =>
  (Kbu (s1,b3,a2)) >>= fun b4 =>
  some ((!b4))
  else
  some (false)
  ) : Option (Bool)) >>= fun b5 =>
  if b5 = true then
  (Kha ((K02.mk a4 a5 a6),s1,a3,a1,(wr (deep4 - 1)))) >>= fun (b6,b7) =>
  ((
  if (b2 == 1) = true then
  (Ke9 (a0,a1)) >>= fun b8 =>
  some (b8)
  else
  some (false)
  ) : Option (Bool)) >>= fun b9 =>
  ((
  if b9 = true then
  (Kec (0,0,[])) >>= fun c0 =>
  some ((c0.fOp,c0.fN,c0.fType,c0.fKids))
  else
  some ((b6.fOp,b6.fN,b6.fType,b6.fKids))
  ) : Option (Int × Int × (List Int) × (List K01))) >>= fun (c1,c2,c3,c4) =>
  Khc (s1,deep4,a0,a1,a2,a3,b7.fb,b7.fi,b7.fh,c1,c2,c3,c4,(wr (b2 + 1)))
  else
  some ((a7,a8,a9,b1,a4,a5,a6))
 partial_fixpoint
def Khd (p : K02 × K00 × LL × (List Int) × Int) : Option (K01 × K02) :=
 match p with
 | (c0,s1,ctx2,ty3,deep4) =>
  (Ka9 (c0,6)) >>= fun (a0,a1) =>
  if (a0 == 0) = true then
  (Kha (a1,s1,ctx2,[0],deep4)) >>= fun (a2,a3) =>
  (Kha (a3,s1,ctx2,ty3,deep4)) >>= fun (a4,a5) =>
  (Kha (a5,s1,ctx2,ty3,deep4)) >>= fun (a6,a7) =>
  (Kec (3,0,[a2,a4,a6])) >>= fun a8 =>
  some (a8,a7)
  else
  if (a0 == 1) = true then
  (Kac (a1,2)) >>= fun (a9,b1) =>
  (Kdv (b1,s1,1,a9)) >>= fun (b2,b3) =>
  (Kdv (b3,s1,1,true)) >>= fun (b4,b5) =>
  (Kf4 (ctx2,[b4,b2])) >>= fun b6 =>
  (Kha (b5,s1,b6,ty3,deep4)) >>= fun (b7,b8) =>
  (Kgd (s1,b6,b7,0)) >>= fun b9 =>
  (Kgd (s1,b6,b7,1)) >>= fun c1 =>
  (Kc8 (s1,b9,c1)) >>= fun c2 =>
  (Kc8 (s1,1,c2)) >>= fun c3 =>
  (Kgk (b8,s1,c3)) >>= fun (c4,c5) =>
  (Kds (1,[b2,b4])) >>= fun c6 =>
  (Kha (c5,s1,ctx2,c6,deep4)) >>= fun (c7,c8) =>
  (Kec (5,c4,[c7,b7])) >>= fun c9 =>
  some (c9,c8)
  else
  if (a0 == 2) = true then
  (Kdv (a1,s1,1,true)) >>= fun (d0,d1) =>
  (Kdv (d1,s1,1,true)) >>= fun (d2,d3) =>
  (Kf4 (ctx2,[d0])) >>= fun d4 =>
  (Kf4 (ctx2,[d2])) >>= fun d5 =>
  (Kha (d3,s1,d4,ty3,deep4)) >>= fun (d6,d7) =>
  (Kha (d7,s1,d5,ty3,deep4)) >>= fun (d8,d9) =>
  (Kgd (s1,d4,d6,0)) >>= fun e0 =>
  (Kgd (s1,d5,d8,0)) >>= fun e1 =>
  (Kc8 (s1,e0,e1)) >>= fun e2 =>
  (Kc8 (s1,1,e2)) >>= fun e3 =>
  (Kgk (d9,s1,e3)) >>= fun (e4,e5) =>
  (Kds (2,[d0,d2])) >>= fun e6 =>
  (Kha (e5,s1,ctx2,e6,deep4)) >>= fun (e7,e8) =>
  (Kec (8,e4,[e7,d6,d8])) >>= fun e9 =>
  some (e9,e8)
  else
  if (a0 == 3) = true then
  (Kac (a1,2)) >>= fun (f0,f1) =>
  (Kdv (f1,s1,1,f0)) >>= fun (f2,f3) =>
  (Kf4 (ctx2,[f2])) >>= fun f4 =>
  (Kha (f3,s1,f4,ty3,deep4)) >>= fun (f5,f6) =>
  (Kgd (s1,f4,f5,0)) >>= fun f7 =>
  (Kgk (f6,s1,f7)) >>= fun (f8,f9) =>
  (Kds ((wr (19 + f8)),[f2])) >>= fun g0 =>
  (Kha (f9,s1,ctx2,g0,deep4)) >>= fun (g1,g2) =>
  (Kec (12,1,[g1,f5])) >>= fun g3 =>
  some (g3,g2)
  else
  (Kac (a1,2)) >>= fun (g4,g5) =>
  (Kdv (g5,s1,2,g4)) >>= fun (g6,g7) =>
  (Kf4 (ctx2,[g6])) >>= fun g8 =>
  (Kha (g7,s1,g8,ty3,deep4)) >>= fun (g9,i0) =>
  (Kgd (s1,g8,g9,0)) >>= fun i1 =>
  (Kgk (i0,s1,i1)) >>= fun (i2,i3) =>
  (Kac (i3,4)) >>= fun (i4,i5) =>
  ((
   if i4 = true then
   (Kds ((wr (3 + i2)),[g6,ty3])) >>= fun i6 =>
   if (decide ((i6.length : Int) < 12)) = true then
   (Kec (0,0,[])) >>= fun i7 =>
   (Kha (i5,s1,ctx2,g6,(wr (deep4 - 1)))) >>= fun (i8,i9) =>
   (Kgr (i8,1,0)) >>= fun j0 =>
   (Kec (10,0,[i7,j0])) >>= fun j8 =>
   (Kec (10,0,[(K01.mk 9 1 i6 [j8]),(K01.mk 9 i2 g6 [g9])])) >>= fun j9 =>
   some (.inr (j9,i9))
   else
   some (.inl ())
   else
   some (.inl ())) : Option ((Unit) ⊕ ((K01 × K02)))) >>= fun fl => match fl with
  | .inl () =>
   (Kha (i5,s1,ctx2,g6,(wr (deep4 - 1)))) >>= fun (k0,k1) =>
   (Kec (10,0,[(K01.mk 9 i2 g6 [g9]),k0])) >>= fun k2 =>
   some (k2,k1)
  | .inr r =>
   some r
 partial_fixpoint
end
def Khe (p : K02 × K00 × LL × (List Int) × Int) (r : K01 × K02) : Prop :=
 match p with
 | (c0,s1,ctx2,ty3,deep4) => Q75 Tryz.prog 231 [K23 c0,K1w s1,sL ctx2,sI ty3,I deep4] (K1z r.1) [K23 r.2,.undef,.undef,.undef,.undef]
def Khf (p : K02 × K00 × LL × (List Int) × Int) (r : K01 × K02) : Prop :=
 match p with
 | (c0,s1,ctx2,ty3,deep4) => Q75 Tryz.prog 252 [K23 c0,K1w s1,sL ctx2,sI ty3,I deep4] (K1z r.1) [K23 r.2,.undef,.undef,.undef,.undef]
def Khg (p : K00 × Int × (List Int) × (List Int) × Int × LL × (List Int) × Int × Int × Int × Int × (List Int) × (List K01) × Int) (fl : Int × Int × (List Int) × (List K01) × (List Int) × Int × Int) : Prop :=
 match p with
 | (s1,deep4,a0,a1,a2,a3,a4,a5,a6,a7,a8,a9,b1,b2) => ∀ c : Ctx,c.nt = 70 → WpL Tryz.prog c (cl (cl (cr (cl (cr (cr (cr (cr (cr (cr K5f)))))))))) (Kh1 c a0 a2 fl) (mkS [(0,.ra 1000 0),(4,I deep4),(6,.ra 1 0),(10,.ra 2 0),(11,sI a0),(12,sI a1),(13,I a2),(14,sL a3),(15,.ra 8 0),(16,I b2)] [(1,K1v s1),(2,zT),(8,.box [I a7,I a8,sI a9,sM K0h b1]),(1000,.box [sM U8 a4,I a5,I a6])])
def Khh (p : K02 × K00 × LL × (List Int) × Int) (r : K01 × K02) : Prop :=
 match p with
 | (c0,s1,ctx2,ty3,deep4) => Q75 Tryz.prog 251 [K23 c0,K1w s1,sL ctx2,sI ty3,I deep4] (K1z r.1) [K23 r.2,.undef,.undef,.undef,.undef]
theorem Khi : (∀ p r,Kha p = some r → Khe p r) ∧ (∀ p r,Khb p = some r → Khf p r) ∧ (∀ p r,Khc p = some r → Khg p r) ∧ (∀ p r,Khd p = some r → Khh p r) := by
 refine Kha.mutual_partial_correctness Khe Khf Khg Khh ?_ ?_ ?_ ?_
 ·rintro spec_dOf_f spec_dFun_f spec_dAround_f spec_dOf_ih spec_dFun_ih spec_dAround_ih ⟨c0,s1,ctx2,ty3,deep4⟩ r h
  refine Q75.bodyO K3a (fn := Tryz.f231) (code := K4z) (by kernel_rfl) (by kernel_rfl) (by kernel_rfl) (nt := 167) (by kernel_rfl) (by kernel_rfl) (T := [(0,.ra 1000 0),(1,K1w s1),(2,sL ctx2),(3,sI ty3),(4,I deep4)]) (O := [(1000,K21 c0)]) (by kernel_rfl) (by kernel_rfl) (fun c hc => ?_)
  refine rs hc none [nW 1,nW 2] [(0,.ra 1000 0),(2,sL ctx2),(3,sI ty3),(4,I deep4),(6,.ra 1 0),(10,.ra 2 0)] [(1,K1v s1),(2,zT),(1000,K21 c0)] tv (sN ?_)
  obtain ⟨⟨a0,a1⟩,a2,h⟩ := Qdt h
  refine rs hc none [oN,some (.call (I a0) [K23 a1,.undef] 1),oN] [(0,.ra 1000 0),(2,sL ctx2),(3,sI ty3),(4,I deep4),(6,.ra 1 0),(10,.ra 2 0),(17,.bool (decide (a0 > 1)))] [(1,K1v s1),(2,zT),(1000,K21 a1)] (ab (Kab _ _ a2) K3j tv) ?_
  obtain ⟨fl,a3,h⟩ := Qdt h
  refine flw (Kgz c c0 s1 ctx2 ty3 deep4 fl) ?_ (fun hF => ?_)
  ·replace h := a3
   refine ic h (fun a4 h => ?_) fun a4 h => ?_
   ·obtain ⟨⟨a5,a6⟩,a7,h⟩ := Qdt h
    refine rsd hc none [oN,oN,nQ ⟨[(20,I (ctx2.length : Int))],[],[]⟩,some (.call (I a5) [K23 a6,.undef] 1),oN] [17] [(11,I a5)] [(1,K1v s1),(2,zT),(1000,K21 a6)] (ac (Qdz (d := 20) K14 ctx2) (Kab _ _ a7) K3j tv) (K9l hc 1 [(0,.ra 1000 0),(2,sL ctx2),(3,sI ty3),(4,I deep4),(6,.ra 1 0),(10,.ra 2 0),(11,I a5),(12,I 0)] (bk 0 ?_))
    obtain ⟨fl,a8,h⟩ := Qdt h
    have hL := Kh4 _ _ a8 c hc
    refine lp ?_
    rcases fl with ⟨⟩ | r
    ·refine wl hL ?_
     obtain rfl := os h
     exact Qd7 im
    refine WpL.mono hL ?_
    rintro _ _ ⟨rfl,hfin⟩
    obtain rfl := os h
    exact ⟨rfl,hfin⟩
   obtain rfl := os h
   exact sk (iv [])
  rcases fl with ⟨a9,b1,b2⟩ | r
  ·refine wf hF (sN (sN ?_))
   obtain ⟨⟨b3,b4,b5,b6⟩,b7,h⟩ := Qdt h
   refine Wp.into (x := .normal) (mkS [(0,.ra 1000 0),(2,sL ctx2),(3,sI ty3),(4,I deep4),(6,.ra 1 0),(10,.ra 2 0),(47,.bool b6)] [(1,K1v s1),(2,zT),(1000,.box [sM U8 b3,I b4,I b5])]) ?_ ?_
   ·replace h := b7
    rcases is h with ⟨b8,h⟩ | ⟨b8,h⟩
    ·obtain ⟨⟨b9,c1⟩,c2,h⟩ := Qdt h
     obtain ⟨rfl,hq0⟩ := Prod.mk.inj (os h)
     obtain ⟨rfl,hq1⟩ := Prod.mk.inj (hq0)
     obtain ⟨rfl,rfl⟩ := Prod.mk.inj (hq1)
     exact rj hc none (nN 4 [some (.call (.bool b9) [K23 c1,.undef] 1),oT]) (ar 2 b8 (ac (Kae _ _ c2) K3k b8 tv))
    obtain ⟨rfl,hq0⟩ := Prod.mk.inj (os h)
    obtain ⟨rfl,hq1⟩ := Prod.mk.inj (hq0)
    obtain ⟨rfl,rfl⟩ := Prod.mk.inj (hq1)
    exact rj hc none [oN,oN,oN,o_,o_,oF] (ar 2 (neT b8) (ai b8 tv))
   clear b7
   refine ic h (fun c3 h => ?_) fun c3 h => ?_
   ·obtain ⟨⟨c4,c5⟩,c6,h⟩ := Qdt h
    obtain rfl := os h
    exact rs hc none (nN 6 [some (.call (K1z c4) [K23 c5,.undef,.undef,.undef,.undef] 1),oN]) [(10,.ra 2 0)] [(2,K1y c4),(1000,K21 c5)] (ab (spec_dAround_ih _ _ c6) K4y tv) (rt (rr [false]))
   refine sk ?_
   obtain ⟨c7,c8,h⟩ := Qdt h
   refine K9n hc none [oN,eL (I c7),oN,oN] [47] [(14,I c7)] (ai (ix c8) tv) (sN (bk 2 (sN ?_)))
   obtain ⟨⟨c9,d0,d1,d2⟩,d3,h⟩ := Qdt h
   refine Wp.into (x := .normal) (mkS [(0,.ra 1000 0),(2,sL ctx2),(3,sI ty3),(4,I deep4),(6,.ra 1 0),(10,.ra 2 0),(14,I c7),(58,.bool d2)] [(1,K1v s1),(2,zT),(1000,.box [sM U8 c9,I d0,I d1])]) ?_ ?_
   ·replace h := d3
    rcases is h with ⟨d4,h⟩ | ⟨d4,h⟩
    ·rcases is h with ⟨d5,h⟩ | ⟨d5,h⟩
     ·obtain ⟨⟨d6,d7⟩,d8,h⟩ := Qdt h
      obtain ⟨rfl,hq0⟩ := Prod.mk.inj (os h)
      obtain ⟨rfl,hq1⟩ := Prod.mk.inj (hq0)
      obtain ⟨rfl,rfl⟩ := Prod.mk.inj (hq1)
      exact rj hc none (nN 5 [oT,oN,oN,some (.call (.bool d6) [K23 d7,.undef] 1),oT,oN]) (ar 3 d4 (ar 2 d5 (ac (Kae _ _ d8) K3k d5 tv)))
     obtain ⟨rfl,hq0⟩ := Prod.mk.inj (os h)
     obtain ⟨rfl,hq1⟩ := Prod.mk.inj (hq0)
     obtain ⟨rfl,rfl⟩ := Prod.mk.inj (hq1)
     exact rj hc none (nN 5 [oT,oN,o_,o_,oF,oN]) (ar 3 d4 (ar 2 (neT d5) (ai d5 tv)))
    obtain ⟨rfl,hq0⟩ := Prod.mk.inj (os h)
    obtain ⟨rfl,hq1⟩ := Prod.mk.inj (hq0)
    obtain ⟨rfl,rfl⟩ := Prod.mk.inj (hq1)
    exact rj hc none [oN,oN,oN,o_,o_,oF,oN,o_,o_,oF,oN] (ar 2 (neT d4) (ai d4 (ar 2 (neT fF) (ai fF tv))))
   clear d3
   refine ic h (fun d9 h => ?_) fun d9 h => ?_
   ·obtain ⟨⟨e0,e1⟩,e2,h⟩ := Qdt h
    obtain ⟨⟨e3,e4⟩,e5,h⟩ := Qdt h
    obtain ⟨e6,e7,h⟩ := Qdt h
    obtain rfl := os h
    exact rs hc (rx [[0],[0],[0],[0],[0],[0,4],[6],[0],[0],[0],[0],[0],[0,11],[13],[14],[15],[16]]) (nN 6 ([some (.call (K1z e0) [K23 e1,.undef,.undef,.undef,.undef] 1)]++nN 6 [some (.call (K1z e3) [K23 e4,.undef,.undef,.undef,.undef] 1),some (.eqv (.mk 3 false) ⟨[(83,.rs 3)],[(3,some (.arr (List.map K0h [e0,e3])))],[3]⟩),some (.call (K1z e6) [.tup []] 1),oN])) [(10,.ra 2 0)] [(2,K1y e6),(1000,K21 e4)] (ad (spec_dOf_ih _ _ e2) K50 (spec_dOf_ih _ _ e5) K50 (ac (congrArg (fun z => (⟨[(83,.rs 3)],[(3,some (.arr z))],[3]⟩ : Wr)) ((Qf0 (K0o e0) (Qf0 (K0o e3) Qez)) : [K1z e0,K1z e3] = List.map K0h [e0,e3])) (Q75.args (A1 := [I 2,I 0,.sl (Q02 (List.map K0h [e0,e3]))]) (A2 := [I 2,I 0,.sl (List.map K0h [e0,e3])]) (by simp only [List.map_nil,K1d]) (Kee _ _ e7)) K4w tv)) (rt (rr [false]))
   refine K9o hc 3 [58] [(85,.bool (c7 == 0))] (ic h (fun e8 h => ?_) fun e8 h => ?_)
   ·obtain ⟨⟨e9,f0⟩,f1,h⟩ := Qdt h
    obtain ⟨f2,f3,h⟩ := Qdt h
    obtain rfl := os h
    exact rs hc none [oN,some (.call (I e9) [K23 f0,.undef] 1),oc (K1z f2),oN] [(10,.ra 2 0)] [(2,K1y f2),(1000,K21 f0)] (ab (Kab _ _ f1) K3j (cq (Q75.args (A1 := [I 1,I e9,.sl []]) (A2 := [I 1,I e9,.sl (List.map K0h [])]) (by simp only [List.map_nil]) (Kee _ _ f3)) K4w tv)) (rt (rr [false]))
   refine K9o hc 3 [85] [(91,.bool (c7 == 1))] (ic h (fun f4 h => ?_) fun f4 h => ?_)
   ·obtain ⟨f5,f6,⟨f7,f8⟩,f9,h⟩ := bq2 h
    obtain ⟨g0,g1,⟨g2,g3⟩,g4,h⟩ := bq2 h
    obtain ⟨g5,g6,h⟩ := Qdt h
    obtain rfl := os h
    exact rs hc (rx [[0],[0],[0],[0],[0,3],[0],[0,5],[7],[0],[0],[0],[0],[8,11],[0],[0,13],[15],[16],[17],[18]]) (nN 4 ([oc (sI f5),oN,oN,some (.call (K1z f7) [K23 f8,.undef,.undef,.undef,.undef] 1)]++nN 4 [oc (sI g0),oN,oN,some (.call (K1z g2) [K23 g3,.undef,.undef,.undef,.undef] 1),some (.eqv (.mk 6 false) ⟨[(110,.rs 6)],[(6,some (.arr (List.map K0h [f7,g2])))],[6]⟩),some (.call (K1z g5) [.tup []] 1),oN])) [(10,.ra 2 0)] [(2,K1y g5),(1000,K21 g3)] (cq (Q75.res (r2 := sI f5) (by simp only [share,Q02,Qel]) (Q75.shr (Kf0 _ _ f6))) K5c (ab (spec_dOf_ih _ _ f9) K50 (cq (Q75.res (r2 := sI g0) (by simp only [share,Q02,Qel]) (Q75.shr (Kf0 _ _ g1))) K5c (ad (spec_dOf_ih _ _ g4) K50 (congrArg (fun z => (⟨[(110,.rs 6)],[(6,some (.arr z))],[6]⟩ : Wr)) ((Qf0 (K0o f7) (Qf0 (K0o g2) Qez)) : [K1z f7,K1z g2] = List.map K0h [f7,g2])) (Q75.args (A1 := [I 4,I 0,.sl (Q02 (List.map K0h [f7,g2]))]) (A2 := [I 4,I 0,.sl (List.map K0h [f7,g2])]) (by simp only [List.map_nil,K1d]) (Kee _ _ g6)) (ai K4w tv))))) (rt (rr [false]))
   refine sN ?_
   obtain ⟨⟨g7,g8,g9,i0⟩,i1,h⟩ := Qdt h
   refine Wp.into (x := .normal) (mkS [(0,.ra 1000 0),(2,sL ctx2),(3,sI ty3),(4,I deep4),(6,.ra 1 0),(10,.ra 2 0),(14,I c7),(112,.bool i0)] [(1,K1v s1),(2,zT),(1000,.box [sM U8 g7,I g8,I g9])]) ?_ ?_
   ·replace h := i1
    rcases is h with ⟨i2,h⟩ | ⟨i2,h⟩
    ·obtain ⟨⟨i3,i4⟩,i5,h⟩ := Qdt h
     obtain ⟨rfl,hq0⟩ := Prod.mk.inj (os h)
     obtain ⟨rfl,hq1⟩ := Prod.mk.inj (hq0)
     obtain ⟨rfl,rfl⟩ := Prod.mk.inj (hq1)
     exact rj hc none (nN 4 [some (.call (.bool i3) [K23 i4,.undef] 1),oT,oN]) (ar 2 i2 (ac (Kae _ _ i5) K3k i2 tv))
    obtain ⟨rfl,hq0⟩ := Prod.mk.inj (os h)
    obtain ⟨rfl,hq1⟩ := Prod.mk.inj (hq0)
    obtain ⟨rfl,rfl⟩ := Prod.mk.inj (hq1)
    exact rj hc none [oN,oN,oN,o_,o_,oF,oN] (ar 2 (neT i2) (ai i2 tv))
   clear i1
   refine ic h (fun i6 h => ?_) fun i6 h => ?_
   ·obtain ⟨i7,i8,i9,j0,⟨j8,j9⟩,k0,h⟩ := bq3 h
    refine rs hc Kh5 ([oN,some (.call (oI i7) [] 9)]++nN 4 [oc (sI i9),oN,oN,some (.call (K1z j8) [K23 j9,.undef,.undef,.undef,.undef] 1),some (.eqv (.mk 10 false) ⟨[(129,.rs 10)],[(10,some (.arr (List.map K0h [j8])))],[10]⟩),oN,oN]) [(10,.ra 2 0)] [(2,.box [I 6,I 0,.rs 9,.rs 10]),(9,rI i7),(10,.arr (List.map K0h [j8])),(1000,K21 j9)] (cq (Kf0 _ _ i8) K5c (cq (Q75.res (r2 := sI i9) (by simp only [share,Q02,Qel]) (Q75.shr (Kf0 _ _ j0))) K5c (ac (spec_dOf_ih _ _ k0) K50 (congrArg (fun z => (⟨[(129,.rs 10)],[(10,some (.arr z))],[10]⟩ : Wr)) ((Qf0 (K0o j8) Qez) : [K1z j8] = List.map K0h [j8])) tv))) (vz 9 (Qel i7) [(10,.ra 2 0)] [(2,.box [I 6,I 0,sI i7,.rs 10]),(10,.arr (List.map K0h [j8])),(1000,K21 j9)] (vz 10 (K1d [j8]) [(10,.ra 2 0)] [(2,.box [I 6,I 0,sI i7,.sl (List.map K0h [j8])]),(1000,K21 j9)] ?_))
    obtain rfl := os h
    exact rt (rr [false])
   refine K9o hc 3 [112] [(131,.bool (c7 == 2))] (ic h (fun k1 h => ?_) fun k1 h => ?_)
   ·obtain ⟨k2,k3,k4,k5,⟨k6,k7⟩,k8,h⟩ := bq3 h
    refine rs hc Kh5 ([oN,some (.call (oI k2) [] 13)]++nN 4 [oc (sI k4),oN,oN,some (.call (K1z k6) [K23 k7,.undef,.undef,.undef,.undef] 1),some (.eqv (.mk 14 false) ⟨[(144,.rs 14)],[(14,some (.arr (List.map K0h [k6])))],[14]⟩),oN,oN]) [(10,.ra 2 0)] [(2,.box [I 7,I 0,.rs 13,.rs 14]),(13,rI k2),(14,.arr (List.map K0h [k6])),(1000,K21 k7)] (cq (Kf0 _ _ k3) K5c (cq (Q75.res (r2 := sI k4) (by simp only [share,Q02,Qel]) (Q75.shr (Kf0 _ _ k5))) K5c (ac (spec_dOf_ih _ _ k8) K50 (congrArg (fun z => (⟨[(144,.rs 14)],[(14,some (.arr z))],[14]⟩ : Wr)) ((Qf0 (K0o k6) Qez) : [K1z k6] = List.map K0h [k6])) tv))) (vz 13 (Qel k2) [(10,.ra 2 0)] [(2,.box [I 7,I 0,sI k2,.rs 14]),(14,.arr (List.map K0h [k6])),(1000,K21 k7)] (vz 14 (K1d [k6]) [(10,.ra 2 0)] [(2,.box [I 7,I 0,sI k2,.sl (List.map K0h [k6])]),(1000,K21 k7)] ?_))
    obtain rfl := os h
    exact rt (rr [false])
   obtain ⟨k9,l0,h⟩ := Qdt h
   refine K9n hc none [oN,oc (.bool k9),oN] [131] [(146,.bool k9)] (cq (Kek _ _ l0) K54 tv) (ic h (fun l1 h => ?_) fun l1 h => ?_)
   ·obtain ⟨l2,l3,l4,l5,⟨l6,l7⟩,l8,h⟩ := bq3 h
    obtain ⟨l9,m0,h⟩ := Qdt h
    obtain rfl := os h
    exact rs hc Kh5 ([oN,oc (I l2)]++nN 4 [oc (sI l4),oN,oN,some (.call (K1z l6) [K23 l7,.undef,.undef,.undef,.undef] 1),some (.eqv (.mk 16 false) ⟨[(159,.rs 16)],[(16,some (.arr (List.map K0h [l6])))],[16]⟩),some (.call (K1z l9) [.tup []] 1),oN]) [(10,.ra 2 0)] [(2,K1y l9),(1000,K21 l7)] (cq (Kf3 _ _ l3) K5e (cq (Q75.res (r2 := sI l4) (by simp only [share,Q02,Qel]) (Q75.shr (Kf0 _ _ l5))) K5c (ad (spec_dOf_ih _ _ l8) K50 (congrArg (fun z => (⟨[(159,.rs 16)],[(16,some (.arr z))],[16]⟩ : Wr)) ((Qf0 (K0o l6) Qez) : [K1z l6] = List.map K0h [l6])) (Q75.args (A1 := [I 11,I l2,.sl (Q02 (List.map K0h [l6]))]) (A2 := [I 11,I l2,.sl (List.map K0h [l6])]) (by simp only [List.map_nil,K1d]) (Kee _ _ m0)) (ai K4w tv)))) (rt (rr [false]))
   refine sk ?_
   obtain ⟨⟨m1,m2⟩,m3,h⟩ := Qdt h
   obtain rfl := os h
   exact rs hc none (nN 5 [some (.call (K1z m1) [K23 m2,.undef,.undef,.undef,.undef] 1),oN]) [(10,.ra 2 0)] [(2,K1y m1),(1000,K21 m2)] (ab (spec_dFun_ih _ _ m3) K5g tv) (rt (rr [false]))
  refine Wp.mono hF ?_
  rintro _ _ ⟨rfl,hfin⟩
  obtain rfl := os h
  exact ⟨.inl rfl,hfin⟩
 ·rintro spec_dOf_f spec_dFun_l0_f spec_dOf_ih spec_dFun_l0_ih ⟨c0,s1,ctx2,ty3,deep4⟩ r h
  refine Q75.bodyO K3a (fn := Tryz.f252) (code := K5f) (by kernel_rfl) (by kernel_rfl) (by kernel_rfl) (nt := 70) (by kernel_rfl) (by kernel_rfl) (T := [(0,.ra 1000 0),(1,K1w s1),(2,sL ctx2),(3,sI ty3),(4,I deep4)]) (O := [(1000,K21 c0)]) (by kernel_rfl) (by kernel_rfl) (fun c hc => ?_)
  refine rs hc none [nW 1,nW 2] [(0,.ra 1000 0),(2,sL ctx2),(3,sI ty3),(4,I deep4),(6,.ra 1 0),(10,.ra 2 0)] [(1,K1v s1),(2,zT),(1000,K21 c0)] tv ?_
  obtain ⟨a0,a2,h⟩ := Qdt h
  refine rsd hc none [oN,some (.call (oI a0) [] 3),oN] [] [(11,.rs 3)] [(1,K1v s1),(2,zT),(3,rI a0),(1000,K21 c0)] (cq (Kf0 _ _ a2) K5c tv) ?_
  obtain ⟨m4,m5,h⟩ := Qdt h
  refine rsd hc none [oN,some (.call (oI m4) [] 4),oN] [] [(12,.rs 4)] [(1,K1v s1),(2,zT),(3,rI a0),(4,rI m4),(1000,K21 c0)] (cq (Kf0 _ _ m5) K5c tv) ?_
  obtain ⟨m6,m7,m8,m9,h⟩ := bq2 h
  refine rss hc none [oN,eL (I m6),oN,oc (I m8),oN] [(0,.ra 1000 0),(2,sL ctx2),(4,I deep4),(6,.ra 1 0),(10,.ra 2 0),(11,.rs 3),(12,.rs 4),(13,I m8)] (ai (ix m7) (cq (Kf3 _ _ m9) K5e tv)) (sN (vz 3 (Qel a0) [(0,.ra 1000 0),(2,sL ctx2),(4,I deep4),(6,.ra 1 0),(10,.ra 2 0),(11,sI a0),(12,.rs 4),(13,I m8)] [(1,K1v s1),(2,zT),(4,rI m4),(1000,K21 c0)] ?_))
  obtain ⟨n0,n1,h⟩ := Qdt h
  refine rg hc none [oN,oN,some (.mk 6 false),some (.call (.osl (List.map K14 n0)) [.tup []] 7),oN] [(0,.ra 1000 0),(4,I deep4),(6,.ra 1 0),(10,.ra 2 0),(11,sI a0),(12,.rs 4),(13,I m8),(14,.rs 7)] [(1,K1v s1),(2,zT),(4,rI m4),(7,rM K14 n0),(1000,K21 c0)] (ab (Q75.args (A1 := [sL ctx2,.sl (Q02 (List.map K14 [a0]))]) (A2 := [sL ctx2,.sl (List.map K14 [a0])]) (by simp only [List.map_nil,K18]) (Kf6 _ _ n1)) K5i tv) (sN (vz 7 (K18 n0) [(0,.ra 1000 0),(4,I deep4),(6,.ra 1 0),(10,.ra 2 0),(11,sI a0),(12,.rs 4),(13,I m8),(14,sL n0)] [(1,K1v s1),(2,zT),(4,rI m4),(1000,K21 c0)] (vz 4 (Qel m4) [(0,.ra 1000 0),(4,I deep4),(6,.ra 1 0),(10,.ra 2 0),(11,sI a0),(12,sI m4),(13,I m8),(14,sL n0)] [(1,K1v s1),(2,zT),(1000,K21 c0)] ?_)))
  obtain ⟨⟨n2,n3⟩,n4,h⟩ := Qdt h
  refine rgd hc none (nN 6 [some (.call (K1z n2) [K23 n3,.undef,.undef,.undef,.undef] 1),nW 8,oN]) [] [(15,.ra 8 0)] [(1,K1v s1),(2,zT),(8,K1y n2),(1000,K21 n3)] (ab (spec_dOf_ih _ _ n4) K50 tv) (sN (K9l hc 1 [(0,.ra 1000 0),(4,I deep4),(6,.ra 1 0),(10,.ra 2 0),(11,sI a0),(12,sI m4),(13,I m8),(14,sL n0),(15,.ra 8 0),(16,I 0)] (bk 0 ?_)))
  obtain ⟨⟨n5,n6,n7,n8,n9,o0,o1⟩,o2,h⟩ := Qdt h
  have hL := spec_dFun_l0_ih _ _ o2 c hc
  refine lp (wl hL (Qd7 (rs hc none [oN,oN,oN,some (.eqv (.mk 9 false) ⟨[(68,.rs 9)],[(9,some (.arr (List.map K0h [(K01.mk n5 n6 n7 n8)])))],[9]⟩),oN,oN] [(10,.ra 2 0)] [(2,.box [I 9,I m8,sI a0,.rs 9]),(9,.arr (List.map K0h [(K01.mk n5 n6 n7 n8)])),(1000,.box [sM U8 n9,I o0,I o1])] (ai (congrArg (fun z => (⟨[(68,.rs 9)],[(9,some (.arr z))],[9]⟩ : Wr)) ((Qf0 (K0o (K01.mk n5 n6 n7 n8)) Qez) : [AV.agg [I n5,I n6,sI n7,sM K0h n8]] = List.map K0h [(K01.mk n5 n6 n7 n8)])) tv) (vz 9 (K1d [(K01.mk n5 n6 n7 n8)]) [(10,.ra 2 0)] [(2,.box [I 9,I m8,sI a0,.sl (List.map K0h [(K01.mk n5 n6 n7 n8)])]),(1000,.box [sM U8 n9,I o0,I o1])] ?_))))
  obtain rfl := os h
  exact rt (rr [false])
 ·rintro spec_dOf_f spec_dFun_l0_f spec_dOf_ih spec_dFun_l0_ih ⟨s1,deep4,a0,m4,m8,n0,b2,o3,b3,o4,o5,o6,o7,o8⟩ r h
  intro c hc
  refine WpL.step (sN (sN ?_))
  obtain ⟨o9,p0,h⟩ := Qdt h
  refine wi [] [(47,.bool o9)] ?_ ?_
  ·replace h := p0
   rcases is h with ⟨p1,h⟩ | ⟨p1,h⟩
   ·obtain ⟨p2,p3,p4,p5,h⟩ := bq2 h
    obtain rfl := os h
    exact rj hc Kh6 (nN 7 [oc (I p2),oN,oc (.bool p4),oN,oT]) (ar 5 p1 (cq (Kgf _ _ p3) K62 (ar 2 p1 (cq (Kbw _ _ p5) K43 (ar 2 p1 tv)))))
   obtain rfl := os h
   exact rj hc Kh6 ([oN,oN,oN]++n_ 8 [oF]) (ar 8 (neT p1) (ai p1 tv))
  clear p0
  refine ic h (fun p6 h => ?_) fun p6 h => ?_
  ·refine sk (sN (bk 1 ?_))
   obtain ⟨⟨p7,p8⟩,p9,h⟩ := Qdt h
   refine rsd hc none (nN 6 [some (.call (K1z p7) [K23 p8,.undef,.undef,.undef,.undef] 1),oN]) [47] [] [(1,K1v s1),(2,zT),(8,K1y p7),(1000,K21 p8)] (ab (spec_dOf_ih _ _ p9) K50 tv) (sN ?_)
   obtain ⟨d2,d3,h⟩ := Qdt h
   refine wi [] [(63,.bool d2)] ?_ ?_
   ·replace h := d3
    rcases is h with ⟨q0,h⟩ | ⟨q0,h⟩
    ·obtain ⟨q1,q2,h⟩ := Qdt h
     obtain rfl := os h
     exact rj hc none (nN 5 [oc (.bool q1),oT]) (ar 3 q0 (cq (Keb _ _ q2) K4u (ai q0 tv)))
    obtain rfl := os h
    exact rj hc none [oN,oN,oN,o_,o_,o_,oF] (ar 3 (neT q0) (ai q0 tv))
   clear d3
   obtain ⟨⟨q3,q4,q5,q6⟩,q7,h⟩ := Qdt h
   refine Wp.into (x := .normal) (mkS [(0,.ra 1000 0),(4,I deep4),(6,.ra 1 0),(10,.ra 2 0),(11,sI a0),(12,sI m4),(13,I m8),(14,sL n0),(15,.ra 8 0),(16,I o8)] [(1,K1v s1),(2,zT),(8,.box [I q3,I q4,sI q5,sM K0h q6]),(1000,K21 p8)]) ?_ ?_
   ·replace h := q7
    refine ic h (fun d9 h => ?_) fun d9 h => ?_
    ·obtain ⟨q8,q9,h⟩ := Qdt h
     obtain ⟨rfl,hq0⟩ := Prod.mk.inj (os h)
     obtain ⟨rfl,hq1⟩ := Prod.mk.inj (hq0)
     obtain ⟨rfl,rfl⟩ := Prod.mk.inj (hq1)
     exact rj hc none [oc (K1z q8),oN] (cq (Q75.args (A1 := [I 0,I 0,.sl []]) (A2 := [I 0,I 0,.sl (List.map K0h [])]) (by simp only [List.map_nil]) (Kee _ _ q9)) K4w tv)
    refine sk ?_
    obtain ⟨rfl,hq0⟩ := Prod.mk.inj (os h)
    obtain ⟨rfl,hq1⟩ := Prod.mk.inj (hq0)
    obtain ⟨rfl,rfl⟩ := Prod.mk.inj (hq1)
    exact iv []
   clear q7
   exact ri0 hc 3 (Qdb (spec_dFun_l0_ih _ _ h c hc))
  refine xt 0 (Qd5 (Qdc ?_))
  obtain ⟨rfl,hq0⟩ := Prod.mk.inj (os h)
  obtain ⟨rfl,hq1⟩ := Prod.mk.inj (hq0)
  obtain ⟨rfl,hq2⟩ := Prod.mk.inj (hq1)
  obtain ⟨rfl,hq3⟩ := Prod.mk.inj (hq2)
  obtain ⟨rfl,hq4⟩ := Prod.mk.inj (hq3)
  obtain ⟨rfl,rfl⟩ := Prod.mk.inj (hq4)
  exact iv []
 ·rintro spec_dOf_f spec_dOf_ih ⟨c0,s1,ctx2,ty3,deep4⟩ r h
  refine Q75.bodyO K3a (fn := Tryz.f251) (code := K4x) (by kernel_rfl) (by kernel_rfl) (by kernel_rfl) (nt := 269) (by kernel_rfl) (by kernel_rfl) (T := [(0,.ra 1000 0),(1,K1w s1),(2,sL ctx2),(3,sI ty3),(4,I deep4)]) (O := [(1000,K21 c0)]) (by kernel_rfl) (by kernel_rfl) (fun c hc => ?_)
  refine rs hc none [nW 1,nW 2] [(0,.ra 1000 0),(2,sL ctx2),(3,sI ty3),(4,I deep4),(6,.ra 1 0),(10,.ra 2 0)] [(1,K1v s1),(2,zT),(1000,K21 c0)] tv (rsd hc none [mK 3,oN] [] [(11,.rs 3)] [(1,K1v s1),(2,zT),(3,.arr (List.map I [0])),(1000,K21 c0)] tv (sN ?_))
  obtain ⟨⟨m4,r0⟩,m5,h⟩ := Qdt h
  refine rsd hc none [oN,some (.call (I m4) [K23 r0,.undef] 1)] [] [(37,I m4)] [(1,K1v s1),(2,zT),(3,.arr (List.map I [0])),(1000,K21 r0)] (ab (Kab _ _ m5) K3j tv) (bk 0 (K9l hc 2 [(0,.ra 1000 0),(2,sL ctx2),(3,sI ty3),(4,I deep4),(6,.ra 1 0),(10,.ra 2 0),(11,.rs 3),(37,I m4),(38,.bool (m4 == 0))] (ic h (fun a4 h => ?_) fun a4 h => ?_)))
  ·refine sN (vz 3 (Qel [0]) [(0,.ra 1000 0),(2,sL ctx2),(3,sI ty3),(4,I deep4),(6,.ra 1 0),(10,.ra 2 0),(11,.sl (List.map I [0])),(37,I m4),(38,.bool (m4 == 0))] [(1,K1v s1),(2,zT),(1000,K21 r0)] ?_)
   obtain ⟨⟨r1,r3⟩,r4,h⟩ := Qdt h
   obtain ⟨⟨r5,r6⟩,r7,h⟩ := Qdt h
   obtain ⟨⟨r8,r9⟩,s0,h⟩ := Qdt h
   obtain ⟨s2,s3,h⟩ := Qdt h
   obtain rfl := os h
   exact rg hc (rh [0,0,0,0,0,5,0,0,0,0,0,11,0,0,0,0,0,17,18,19,20]) (nN 5 ([some (.call (K1z r1) [K23 r3,.undef,.undef,.undef,.undef] 1)]++nN 5 ([some (.call (K1z r5) [K23 r6,.undef,.undef,.undef,.undef] 1)]++nN 5 [some (.call (K1z r8) [K23 r9,.undef,.undef,.undef,.undef] 1),some (.eqv (.mk 4 false) ⟨[(58,.rs 4)],[(4,some (.arr (List.map K0h [r1,r5,r8])))],[4]⟩),some (.call (K1z s2) [.tup []] 1),oN]))) [(10,.ra 2 0)] [(2,K1y s2),(1000,K21 r9)] (ad (spec_dOf_ih _ _ r4) K50 (spec_dOf_ih _ _ r7) K50 (ad (spec_dOf_ih _ _ s0) K50 (congrArg (fun z => (⟨[(58,.rs 4)],[(4,some (.arr z))],[4]⟩ : Wr)) ((Qf0 (K0o r1) (Qf0 (K0o r5) (Qf0 (K0o r8) Qez))) : [K1z r1,K1z r5,K1z r8] = List.map K0h [r1,r5,r8])) (Q75.args (A1 := [I 3,I 0,.sl (Q02 (List.map K0h [r1,r5,r8]))]) (A2 := [I 3,I 0,.sl (List.map K0h [r1,r5,r8])]) (by simp only [List.map_nil,K1d]) (Kee _ _ s3)) (ai K4w tv))) (rt (rr [false]))
  refine K9m hc 2 [11,38] [(60,.bool (m4 == 1))] [(1,K1v s1),(2,zT),(1000,K21 r0)] (ic h (fun s4 h => ?_) fun s4 h => ?_)
  ·obtain ⟨⟨s5,s6⟩,s7,h⟩ := Qdt h
   obtain ⟨⟨s8,s9⟩,t0,h⟩ := Qdt h
   refine rsd hc Kh7 [oN,oN,oN,some (.call (.bool s5) [K23 s6,.undef] 1),some (.call (oI s8) [K23 s9,.undef,.undef,.undef] 5),oN] [60,37] [(12,.rs 5)] [(1,K1v s1),(2,zT),(5,rI s8),(1000,K21 s9)] (ad (Kae _ _ s7) K3k (Kdx _ _ t0) K4o tv) ?_
   obtain ⟨⟨t1,t2⟩,t3,h⟩ := Qdt h
   refine rs hc none [oN,oN,some (.call (oI t1) [K23 t2,.undef,.undef,.undef] 6),oN] [(0,.ra 1000 0),(2,sL ctx2),(3,sI ty3),(4,I deep4),(6,.ra 1 0),(10,.ra 2 0),(12,.rs 5),(13,.rs 6)] [(1,K1v s1),(2,zT),(5,rI s8),(6,rI t1),(1000,K21 t2)] (ab (Kdx _ _ t3) K4o tv) (sN (vz 6 (Qel t1) [(0,.ra 1000 0),(2,sL ctx2),(3,sI ty3),(4,I deep4),(6,.ra 1 0),(10,.ra 2 0),(12,.rs 5),(13,sI t1)] [(1,K1v s1),(2,zT),(5,rI s8),(1000,K21 t2)] (vz 5 (Qel s8) [(0,.ra 1000 0),(2,sL ctx2),(3,sI ty3),(4,I deep4),(6,.ra 1 0),(10,.ra 2 0),(12,sI s8),(13,sI t1)] [(1,K1v s1),(2,zT),(1000,K21 t2)] ?_)))
   obtain ⟨t4,t5,h⟩ := Qdt h
   refine rg hc none [oN,oN,oN,some (.mk 9 false),some (.call (.osl (List.map K14 t4)) [.tup []] 10),oN] [(0,.ra 1000 0),(2,sL ctx2),(3,sI ty3),(4,I deep4),(6,.ra 1 0),(10,.ra 2 0),(12,sI s8),(13,sI t1),(14,.rs 10)] [(1,K1v s1),(2,zT),(10,rM K14 t4),(1000,K21 t2)] (ab (Q75.args (A1 := [sL ctx2,.sl (Q02 (List.map K14 [t1,s8]))]) (A2 := [sL ctx2,.sl (List.map K14 [t1,s8])]) (by simp only [List.map_nil,K18]) (Kf6 _ _ t5)) K5i tv) (sN (vz 10 (K18 t4) [(0,.ra 1000 0),(2,sL ctx2),(3,sI ty3),(4,I deep4),(6,.ra 1 0),(10,.ra 2 0),(12,sI s8),(13,sI t1),(14,sL t4)] [(1,K1v s1),(2,zT),(1000,K21 t2)] ?_))
   obtain ⟨⟨t6,t7⟩,t8,h⟩ := Qdt h
   refine rgd hc none (nN 5 [some (.call (K1z t6) [K23 t7,.undef,.undef,.undef,.undef] 1),nW 11,oN]) [3] [(15,.ra 11 0)] [(1,K1v s1),(2,zT),(11,K1y t6),(1000,K21 t7)] (ab (spec_dOf_ih _ _ t8) K50 tv) ?_
   obtain ⟨q1,q2,t9,u0,u1,u2,u3,u4,h⟩ := bq4 h
   refine K9n hc Kh8 (nN 5 [oc (I q1),oN,oN,oN,oc (I t9),oc (I u1),oc (I u3),oN]) [14] [(16,I u3)] (cq (Kgf _ _ q2) K62 (cq (Kgf _ _ u0) K62 (cq (Kca _ _ u2) K47 (cq (Kca _ _ u4) K47 tv)))) ?_
   obtain ⟨⟨u5,u6⟩,u7,h⟩ := Qdt h
   obtain ⟨u8,u9,⟨v0,v1⟩,v2,h⟩ := bq2 h
   obtain ⟨v3,v4,h⟩ := Qdt h
   obtain rfl := os h
   exact rs hc (rx [[0],[0],[0],[3],[0],[0],[0],[0],[0],[0,7,8],[4,7,8,9],[0],[12],[0],[14],[15],[16]]) ([oN,oN,oN,some (.call (I u5) [K23 u6,.undef,.undef] 1)]++nN 5 [some (.mk 14 false),some (.call (sI u8) [.tup []] 1),oN,some (.call (K1z v0) [K23 v1,.undef,.undef,.undef,.undef] 1),oN,some (.eqv (.mk 15 false) ⟨[(107,.rs 15)],[(15,some (.arr (List.map K0h [v0,t6])))],[15]⟩),some (.call (K1z v3) [.tup []] 1),oN]) [(10,.ra 2 0)] [(2,K1y v3),(1000,K21 v1)] (ad (Kgm _ _ u7) K64 (Q75.args (A1 := [I 1,.sl (Q02 (List.map K14 [s8,t1]))]) (A2 := [I 1,.sl (List.map K14 [s8,t1])]) (by simp only [List.map_nil,K18]) (Q75.res (r2 := sI u8) (by simp only [share,Q02,Qel]) (Q75.shr (Kdu _ _ u9)))) K4q (ad (spec_dOf_ih _ _ v2) K50 (congrArg (fun z => (⟨[(107,.rs 15)],[(15,some (.arr z))],[15]⟩ : Wr)) ((Qf0 (K0o v0) (Qf0 (K0o t6) Qez)) : [K1z v0,K1z t6] = List.map K0h [v0,t6])) (Q75.args (A1 := [I 5,I u5,.sl (Q02 (List.map K0h [v0,t6]))]) (A2 := [I 5,I u5,.sl (List.map K0h [v0,t6])]) (by simp only [List.map_nil,K1d]) (Kee _ _ v4)) (ai K4w tv))) (rt (rr [false]))
  refine K9o hc 2 [60] [(109,.bool (m4 == 2))] (ic h (fun v5 h => ?_) fun v5 h => ?_)
  ·obtain ⟨⟨v6,v7⟩,v8,h⟩ := Qdt h
   refine rsd hc none [oN,oN,some (.call (oI v6) [K23 v7,.undef,.undef,.undef] 16),oN] [109,37] [(17,.rs 16)] [(1,K1v s1),(2,zT),(16,rI v6),(1000,K21 v7)] (ab (Kdx _ _ v8) K4o tv) ?_
   obtain ⟨⟨v9,w0⟩,w1,h⟩ := Qdt h
   refine rs hc none [oN,oN,some (.call (oI v9) [K23 w0,.undef,.undef,.undef] 17),oN] [(0,.ra 1000 0),(2,sL ctx2),(3,sI ty3),(4,I deep4),(6,.ra 1 0),(10,.ra 2 0),(17,.rs 16),(18,.rs 17)] [(1,K1v s1),(2,zT),(16,rI v6),(17,rI v9),(1000,K21 w0)] (ab (Kdx _ _ w1) K4o tv) (sN (vz 16 (Qel v6) [(0,.ra 1000 0),(2,sL ctx2),(3,sI ty3),(4,I deep4),(6,.ra 1 0),(10,.ra 2 0),(17,sI v6),(18,.rs 17)] [(1,K1v s1),(2,zT),(17,rI v9),(1000,K21 w0)] ?_))
   obtain ⟨w2,w3,h⟩ := Qdt h
   refine rg hc none [oN,oN,some (.mk 19 false),some (.call (.osl (List.map K14 w2)) [.tup []] 20),oN] [(0,.ra 1000 0),(2,sL ctx2),(3,sI ty3),(4,I deep4),(6,.ra 1 0),(10,.ra 2 0),(17,sI v6),(18,.rs 17),(19,.rs 20)] [(1,K1v s1),(2,zT),(17,rI v9),(20,rM K14 w2),(1000,K21 w0)] (ab (Q75.args (A1 := [sL ctx2,.sl (Q02 (List.map K14 [v6]))]) (A2 := [sL ctx2,.sl (List.map K14 [v6])]) (by simp only [List.map_nil,K18]) (Kf6 _ _ w3)) K5i tv) (sN (vz 17 (Qel v9) [(0,.ra 1000 0),(2,sL ctx2),(3,sI ty3),(4,I deep4),(6,.ra 1 0),(10,.ra 2 0),(17,sI v6),(18,sI v9),(19,.rs 20)] [(1,K1v s1),(2,zT),(20,rM K14 w2),(1000,K21 w0)] ?_))
   obtain ⟨w4,w5,h⟩ := Qdt h
   refine rg hc none [oN,oN,some (.mk 22 false),some (.call (.osl (List.map K14 w4)) [.tup []] 23),oN] [(0,.ra 1000 0),(2,sL ctx2),(3,sI ty3),(4,I deep4),(6,.ra 1 0),(10,.ra 2 0),(17,sI v6),(18,sI v9),(19,.rs 20),(20,.rs 23)] [(1,K1v s1),(2,zT),(20,rM K14 w2),(23,rM K14 w4),(1000,K21 w0)] (ab (Q75.args (A1 := [sL ctx2,.sl (Q02 (List.map K14 [v9]))]) (A2 := [sL ctx2,.sl (List.map K14 [v9])]) (by simp only [List.map_nil,K18]) (Kf6 _ _ w5)) K5i tv) (sN (vz 20 (K18 w2) [(0,.ra 1000 0),(2,sL ctx2),(3,sI ty3),(4,I deep4),(6,.ra 1 0),(10,.ra 2 0),(17,sI v6),(18,sI v9),(19,sL w2),(20,.rs 23)] [(1,K1v s1),(2,zT),(23,rM K14 w4),(1000,K21 w0)] ?_))
   obtain ⟨⟨w6,w7⟩,w8,h⟩ := Qdt h
   refine rg hc none (nN 5 [some (.call (K1z w6) [K23 w7,.undef,.undef,.undef,.undef] 1),nW 24,oN]) [(0,.ra 1000 0),(2,sL ctx2),(3,sI ty3),(4,I deep4),(6,.ra 1 0),(10,.ra 2 0),(17,sI v6),(18,sI v9),(19,sL w2),(20,.rs 23),(21,.ra 24 0)] [(1,K1v s1),(2,zT),(23,rM K14 w4),(24,K1y w6),(1000,K21 w7)] (ab (spec_dOf_ih _ _ w8) K50 tv) (sN (vz 23 (K18 w4) [(0,.ra 1000 0),(2,sL ctx2),(3,sI ty3),(4,I deep4),(6,.ra 1 0),(10,.ra 2 0),(17,sI v6),(18,sI v9),(19,sL w2),(20,sL w4),(21,.ra 24 0)] [(1,K1v s1),(2,zT),(24,K1y w6),(1000,K21 w7)] ?_))
   obtain ⟨⟨w9,x0⟩,x1,h⟩ := Qdt h
   refine rgd hc none (nN 5 [some (.call (K1z w9) [K23 x0,.undef,.undef,.undef,.undef] 1),nW 25,oN]) [3] [(22,.ra 25 0)] [(1,K1v s1),(2,zT),(24,K1y w6),(25,K1y w9),(1000,K21 x0)] (ab (spec_dOf_ih _ _ x1) K50 tv) ?_
   obtain ⟨x2,x3,j8,k0,x4,x5,x6,x7,h⟩ := bq4 h
   refine K9n hc Kh8 (nN 5 [oc (I x2),oN,oN,oN,oc (I j8),oc (I x4),oc (I x6),oN]) [19,20] [(23,I x6)] (cq (Kgf _ _ x3) K62 (cq (Kgf _ _ k0) K62 (cq (Kca _ _ x5) K47 (cq (Kca _ _ x7) K47 tv)))) ?_
   obtain ⟨⟨x8,x9⟩,y0,h⟩ := Qdt h
   obtain ⟨y1,y2,⟨y3,y4⟩,y5,h⟩ := bq2 h
   obtain ⟨y6,y7,h⟩ := Qdt h
   obtain rfl := os h
   exact rs hc (rx [[0],[0],[0],[3],[0],[0],[0],[0],[0],[0,7,8],[4,7,8,9],[0],[12],[0],[0],[15],[16],[17]]) ([oN,oN,oN,some (.call (I x8) [K23 x9,.undef,.undef] 1)]++nN 5 [some (.mk 28 false),some (.call (sI y1) [.tup []] 1),oN,some (.call (K1z y3) [K23 y4,.undef,.undef,.undef,.undef] 1),oN,oN,some (.eqv (.mk 29 false) ⟨[(164,.rs 29)],[(29,some (.arr (List.map K0h [y3,w6,w9])))],[29]⟩),some (.call (K1z y6) [.tup []] 1),oN]) [(10,.ra 2 0)] [(2,K1y y6),(1000,K21 y4)] (ad (Kgm _ _ y0) K64 (Q75.args (A1 := [I 2,.sl (Q02 (List.map K14 [v6,v9]))]) (A2 := [I 2,.sl (List.map K14 [v6,v9])]) (by simp only [List.map_nil,K18]) (Q75.res (r2 := sI y1) (by simp only [share,Q02,Qel]) (Q75.shr (Kdu _ _ y2)))) K4q (ad (spec_dOf_ih _ _ y5) K50 (congrArg (fun z => (⟨[(164,.rs 29)],[(29,some (.arr z))],[29]⟩ : Wr)) ((Qf0 (K0o y3) (Qf0 (K0o w6) (Qf0 (K0o w9) Qez))) : [K1z y3,K1z w6,K1z w9] = List.map K0h [y3,w6,w9])) (Q75.args (A1 := [I 8,I x8,.sl (Q02 (List.map K0h [y3,w6,w9]))]) (A2 := [I 8,I x8,.sl (List.map K0h [y3,w6,w9])]) (by simp only [List.map_nil,K1d]) (Kee _ _ y7)) (ai K4w tv))) (rt (rr [false]))
  refine K9o hc 2 [109,37] [(166,.bool (m4 == 3))] (ic h (fun y8 h => ?_) fun y8 h => ?_)
  ·obtain ⟨⟨y9,z0⟩,z1,h⟩ := Qdt h
   obtain ⟨⟨z2,z3⟩,z4,h⟩ := Qdt h
   refine rs hc Kh7 [oN,oN,oN,some (.call (.bool y9) [K23 z0,.undef] 1),some (.call (oI z2) [K23 z3,.undef,.undef,.undef] 30),oN] [(0,.ra 1000 0),(2,sL ctx2),(3,sI ty3),(4,I deep4),(6,.ra 1 0),(10,.ra 2 0),(24,.rs 30)] [(1,K1v s1),(2,zT),(30,rI z2),(1000,K21 z3)] (ad (Kae _ _ z1) K3k (Kdx _ _ z4) K4o tv) (sN (vz 30 (Qel z2) [(0,.ra 1000 0),(2,sL ctx2),(3,sI ty3),(4,I deep4),(6,.ra 1 0),(10,.ra 2 0),(24,sI z2)] [(1,K1v s1),(2,zT),(1000,K21 z3)] ?_))
   obtain ⟨z5,z6,h⟩ := Qdt h
   refine rg hc none [oN,oN,some (.mk 32 false),some (.call (.osl (List.map K14 z5)) [.tup []] 33),oN] [(0,.ra 1000 0),(2,sL ctx2),(3,sI ty3),(4,I deep4),(6,.ra 1 0),(10,.ra 2 0),(24,sI z2),(25,.rs 33)] [(1,K1v s1),(2,zT),(33,rM K14 z5),(1000,K21 z3)] (ab (Q75.args (A1 := [sL ctx2,.sl (Q02 (List.map K14 [z2]))]) (A2 := [sL ctx2,.sl (List.map K14 [z2])]) (by simp only [List.map_nil,K18]) (Kf6 _ _ z6)) K5i tv) (sN (vz 33 (K18 z5) [(0,.ra 1000 0),(2,sL ctx2),(3,sI ty3),(4,I deep4),(6,.ra 1 0),(10,.ra 2 0),(24,sI z2),(25,sL z5)] [(1,K1v s1),(2,zT),(1000,K21 z3)] ?_))
   obtain ⟨⟨m1,m2⟩,m3,h⟩ := Qdt h
   refine rgd hc none (nN 5 [some (.call (K1z m1) [K23 m2,.undef,.undef,.undef,.undef] 1),nW 34,oN]) [3] [(26,.ra 34 0)] [(1,K1v s1),(2,zT),(34,K1y m1),(1000,K21 m2)] (ab (spec_dOf_ih _ _ m3) K50 tv) ?_
   obtain ⟨z7,z8,⟨z9,h0⟩,h1,h⟩ := bq2 h
   refine rsd hc Kh9 (nN 5 [oc (I z7),some (.call (I z9) [K23 h0,.undef,.undef] 1),oN]) [25] [(27,I z9)] [(1,K1v s1),(2,zT),(34,K1y m1),(1000,K21 h0)] (cq (Kgf _ _ z8) K62 (ab (Kgm _ _ h1) K64 tv)) ?_
   obtain ⟨h2,h3,⟨h4,h5⟩,h6,h⟩ := bq2 h
   obtain ⟨h7,h8,h⟩ := Qdt h
   obtain rfl := os h
   exact rs hc (rx [[0],[0],[0],[0],[0,3],[0],[0,5],[0,3,4,5,6],[0],[9],[0],[11],[12],[13]]) (nN 6 [some (.mk 37 false),some (.call (sI h2) [.tup []] 1),oN,some (.call (K1z h4) [K23 h5,.undef,.undef,.undef,.undef] 1),oN,some (.eqv (.mk 38 false) ⟨[(201,.rs 38)],[(38,some (.arr (List.map K0h [h4,m1])))],[38]⟩),some (.call (K1z h7) [.tup []] 1),oN]) [(10,.ra 2 0)] [(2,K1y h7),(1000,K21 h5)] (ad (Q75.args (A1 := [I (wr (19 + z9)),.sl (Q02 (List.map K14 [z2]))]) (A2 := [I (wr (19 + z9)),.sl (List.map K14 [z2])]) (by simp only [List.map_nil,K18]) (Q75.res (r2 := sI h2) (by simp only [share,Q02,Qel]) (Q75.shr (Kdu _ _ h3)))) K4q (spec_dOf_ih _ _ h6) K50 (ac (congrArg (fun z => (⟨[(201,.rs 38)],[(38,some (.arr z))],[38]⟩ : Wr)) ((Qf0 (K0o h4) (Qf0 (K0o m1) Qez)) : [K1z h4,K1z m1] = List.map K0h [h4,m1])) (Q75.args (A1 := [I 12,I 1,.sl (Q02 (List.map K0h [h4,m1]))]) (A2 := [I 12,I 1,.sl (List.map K0h [h4,m1])]) (by simp only [List.map_nil,K1d]) (Kee _ _ h8)) K4w tv)) (rt (rr [false]))
  refine sk ?_
  obtain ⟨⟨h9,a00⟩,a01,h⟩ := Qdt h
  obtain ⟨⟨a02,a03⟩,a04,h⟩ := Qdt h
  refine rs hc Kh7 [oN,oN,oN,some (.call (.bool h9) [K23 a00,.undef] 1),some (.call (oI a02) [K23 a03,.undef,.undef,.undef] 39),oN] [(0,.ra 1000 0),(2,sL ctx2),(3,sI ty3),(4,I deep4),(6,.ra 1 0),(10,.ra 2 0),(28,.rs 39)] [(1,K1v s1),(2,zT),(39,rI a02),(1000,K21 a03)] (ad (Kae _ _ a01) K3k (Kdx _ _ a04) K4o tv) (sN (vz 39 (Qel a02) [(0,.ra 1000 0),(2,sL ctx2),(3,sI ty3),(4,I deep4),(6,.ra 1 0),(10,.ra 2 0),(28,sI a02)] [(1,K1v s1),(2,zT),(1000,K21 a03)] ?_))
  obtain ⟨a05,a06,h⟩ := Qdt h
  refine rg hc none [oN,oN,some (.mk 41 false),some (.call (.osl (List.map K14 a05)) [.tup []] 42),oN] [(0,.ra 1000 0),(2,sL ctx2),(3,sI ty3),(4,I deep4),(6,.ra 1 0),(10,.ra 2 0),(28,sI a02),(29,.rs 42)] [(1,K1v s1),(2,zT),(42,rM K14 a05),(1000,K21 a03)] (ab (Q75.args (A1 := [sL ctx2,.sl (Q02 (List.map K14 [a02]))]) (A2 := [sL ctx2,.sl (List.map K14 [a02])]) (by simp only [List.map_nil,K18]) (Kf6 _ _ a06)) K5i tv) (sN (vz 42 (K18 a05) [(0,.ra 1000 0),(2,sL ctx2),(3,sI ty3),(4,I deep4),(6,.ra 1 0),(10,.ra 2 0),(28,sI a02),(29,sL a05)] [(1,K1v s1),(2,zT),(1000,K21 a03)] ?_))
  obtain ⟨⟨a07,a08⟩,a09,h⟩ := Qdt h
  refine rgd hc none (nN 5 [some (.call (K1z a07) [K23 a08,.undef,.undef,.undef,.undef] 1),nW 43,oN]) [] [(30,.ra 43 0)] [(1,K1v s1),(2,zT),(43,K1y a07),(1000,K21 a08)] (ab (spec_dOf_ih _ _ a09) K50 tv) ?_
  obtain ⟨a10,a11,⟨a12,a13⟩,a14,h⟩ := bq2 h
  refine rsd hc Kh9 (nN 5 [oc (I a10),some (.call (I a12) [K23 a13,.undef,.undef] 1),oN]) [29] [(31,I a12)] [(1,K1v s1),(2,zT),(43,K1y a07),(1000,K21 a13)] (cq (Kgf _ _ a11) K62 (ab (Kgm _ _ a14) K64 tv)) (rsd hc none [oN,oN,oN,some (.eqv (.mk 44 false) ⟨[(228,.rs 44)],[(44,some (.arr (List.map K0h [a07])))],[44]⟩),oN,nW 45,oN] [30] [(32,.ra 45 0)] [(1,K1v s1),(2,zT),(44,.arr (List.map K0h [a07])),(45,.box [I 9,I a12,sI a02,.rs 44]),(1000,K21 a13)] (ai (congrArg (fun z => (⟨[(228,.rs 44)],[(44,some (.arr z))],[44]⟩ : Wr)) ((Qf0 (K0o a07) Qez) : [K1z a07] = List.map K0h [a07])) tv) (sN ?_))
  obtain ⟨⟨a15,a16⟩,a17,h⟩ := Qdt h
  refine rs hc none [oN,some (.call (.bool a15) [K23 a16,.undef] 1)] [(0,.ra 1000 0),(2,sL ctx2),(3,sI ty3),(4,I deep4),(6,.ra 1 0),(10,.ra 2 0),(28,sI a02),(31,I a12),(32,.ra 45 0),(231,.bool a15)] [(1,K1v s1),(2,zT),(44,.arr (List.map K0h [a07])),(45,.box [I 9,I a12,sI a02,.rs 44]),(1000,K21 a16)] (ab (Kae _ _ a17) K3k tv) ?_
  obtain ⟨fl,a18,h⟩ := Qdt h
  refine flw (Kh0 c c0 s1 ctx2 ty3 deep4 a02 a07 a12 a16 fl) ?_ (fun hF => ?_)
  ·replace h := a18
   refine ic h (fun a19 h => ?_) fun a19 h => ?_
   ·obtain ⟨a20,a21,h⟩ := Qdt h
    refine rsd hc none (nN 4 [some (.mk 46 false),some (.call (oI a20) [] 47),oN]) [3,31,231] [(33,.rs 47)] [(1,K1v s1),(2,zT),(44,.arr (List.map K0h [a07])),(45,.box [I 9,I a12,sI a02,.rs 44]),(47,rI a20),(1000,K21 a16)] (ac (Q75.args (A1 := [I (wr (3 + a12)),.sl (Q02 (List.map K14 [a02,ty3]))]) (A2 := [I (wr (3 + a12)),.sl (List.map K14 [a02,ty3])]) (by simp only [List.map_nil,K18]) (Kdu _ _ a21)) K4q (Or.inr (Qet Qep a20) : ([46] : List Nat) = [] ∨ noSh (oI a20) = true) tv) (K9n hc none [oN,nQ ⟨[(239,I (a20.length : Int))],[],[]⟩,oN] [] [(240,.bool (decide ((a20.length : Int) < 12)))] (ai (Qdz (d := 239) I a20) tv) (ic h (fun a22 h => ?_) fun a22 h => ?_))
    ·obtain ⟨a23,a24,⟨a25,a26⟩,a27,h⟩ := bq2 h
     obtain ⟨a28,a29,a30,a31,h⟩ := bq2 h
     refine rs hc (rx [[0],[0],[0],[0],[0],[0],[0,5],[7],[8],[9],[10],[0],[12]]) ([oc (K1z a23)]++nN 6 [some (.call (K1z a25) [K23 a26,.undef,.undef,.undef,.undef] 1),oc (K1z a28),some (.eqv (.mk 51 false) ⟨[(250,.rs 51)],[(51,some (.arr (List.map K0h [a23,a28])))],[51]⟩),some (.call (K1z a30) [.tup []] 1),nW 52,oN]) [(10,.ra 2 0),(32,.ra 45 0),(33,.rs 47),(34,.ra 52 0)] [(2,zT),(44,.arr (List.map K0h [a07])),(45,.box [I 9,I a12,sI a02,.rs 44]),(47,rI a20),(52,K1y a30),(1000,K21 a26)] (cq (Q75.args (A1 := [I 0,I 0,.sl []]) (A2 := [I 0,I 0,.sl (List.map K0h [])]) (by simp only [List.map_nil]) (Kee _ _ a24)) K4w (ab (spec_dOf_ih _ _ a27) K50 (cq (Q75.res (r2 := K1z a28) (by simp only [share,Q02,K1i,Qel]) (Q75.shr (Kgw _ _ a29))) K68 (ac (congrArg (fun z => (⟨[(250,.rs 51)],[(51,some (.arr z))],[51]⟩ : Wr)) ((Qf0 (K0o a23) (Qf0 (K0o a28) Qez)) : [K1z a23,K1z a28] = List.map K0h [a23,a28])) (Q75.args (A1 := [I 10,I 0,.sl (Q02 (List.map K0h [a23,a28]))]) (A2 := [I 10,I 0,.sl (List.map K0h [a23,a28])]) (by simp only [List.map_nil,K1d]) (Kee _ _ a31)) K4w tv)))) (sN (vz 47 (Qel a20) [(10,.ra 2 0),(32,.ra 45 0),(33,sI a20),(34,.ra 52 0)] [(2,zT),(44,.arr (List.map K0h [a07])),(45,.box [I 9,I a12,sI a02,.rs 44]),(52,K1y a30),(1000,K21 a26)] (vz 44 (K1d [a07]) [(10,.ra 2 0),(32,.ra 45 0),(33,sI a20),(34,.ra 52 0)] [(2,zT),(45,.box [I 9,I a12,sI a02,.sl (List.map K0h [a07])]),(52,K1y a30),(1000,K21 a26)] ?_)))
     obtain ⟨a32,a33,h⟩ := Qdt h
     obtain rfl := os h
     exact rg hc none [oN,oN,some (.eqv (.call .undef [] 59) ⟨[(254,.sl (List.map K0h [a30]))],[(59,none)],[59]⟩),oN,oN,some (.eqv (.mk 60 false) ⟨[(257,.rs 60)],[(60,some (.arr (List.map K0h [(K01.mk 9 1 a20 [a30]),(K01.mk 9 a12 a02 [a07])])))],[60]⟩),some (.call (K1z a32) [.tup []] 1),oN] [(10,.ra 2 0)] [(2,K1y a32),(1000,K21 a26)] (ad (congrArg (fun z => (⟨[(254,.sl z)],[(59,none)],[59]⟩ : Wr)) ((Qf0 (K0o a30) Qez) : [K1z a30] = List.map K0h [a30])) (congrArg (fun z => (⟨[(257,.rs 60)],[(60,some (.arr z))],[60]⟩ : Wr)) ((Qf0 (K0o (K01.mk 9 1 a20 [a30])) (Qf0 (K0o (K01.mk 9 a12 a02 [a07])) Qez)) : [AV.agg [I 9,I 1,sI a20,.sl (List.map K0h [a30])],AV.agg [I 9,I a12,sI a02,.sl (List.map K0h [a07])]] = List.map K0h [(K01.mk 9 1 a20 [a30]),(K01.mk 9 a12 a02 [a07])])) (Q75.args (A1 := [I 10,I 0,.sl (Q02 (List.map K0h [(K01.mk 9 1 a20 [a30]),(K01.mk 9 a12 a02 [a07])]))]) (A2 := [I 10,I 0,.sl (List.map K0h [(K01.mk 9 1 a20 [a30]),(K01.mk 9 a12 a02 [a07])])]) (by simp only [List.map_nil,K1d]) (Kee _ _ a33)) K4w tv) (rt (rp [false]))
    obtain rfl := os h
    exact sk (iv [])
   obtain rfl := os h
   exact sk (iv [])
  rcases fl with ⟨⟩ | r
  ·refine wf hF (sN (vz 44 (K1d [a07]) [(0,.ra 1000 0),(2,sL ctx2),(4,I deep4),(6,.ra 1 0),(10,.ra 2 0),(28,sI a02),(32,.ra 45 0)] [(1,K1v s1),(2,zT),(45,.box [I 9,I a12,sI a02,.sl (List.map K0h [a07])]),(1000,K21 a16)] ?_))
   obtain ⟨⟨a34,a35⟩,a36,h⟩ := Qdt h
   obtain ⟨a37,a38,h⟩ := Qdt h
   obtain rfl := os h
   exact rg hc (rx [[0],[0],[0],[0],[0],[0],[0,5],[0,1,2,3,4,5,6],[8],[9],[10]]) (nN 7 [some (.call (K1z a34) [K23 a35,.undef,.undef,.undef,.undef] 1),some (.eqv (.mk 62 false) ⟨[(267,.rs 62)],[(62,some (.arr (List.map K0h [(K01.mk 9 a12 a02 [a07]),a34])))],[62]⟩),some (.call (K1z a37) [.tup []] 1),oN]) [(10,.ra 2 0)] [(2,K1y a37),(1000,K21 a35)] (ad (spec_dOf_ih _ _ a36) K50 (congrArg (fun z => (⟨[(267,.rs 62)],[(62,some (.arr z))],[62]⟩ : Wr)) ((Qf0 (K0o (K01.mk 9 a12 a02 [a07])) (Qf0 (K0o a34) Qez)) : [AV.agg [I 9,I a12,sI a02,.sl (List.map K0h [a07])],K1z a34] = List.map K0h [(K01.mk 9 a12 a02 [a07]),a34])) (Q75.args (A1 := [I 10,I 0,.sl (Q02 (List.map K0h [(K01.mk 9 a12 a02 [a07]),a34]))]) (A2 := [I 10,I 0,.sl (List.map K0h [(K01.mk 9 a12 a02 [a07]),a34])]) (by simp only [List.map_nil,K1d]) (Kee _ _ a38)) (ai K4w tv)) (rt (rr [false]))
  refine Wp.mono hF ?_
  rintro _ _ ⟨rfl,hfin⟩
  obtain rfl := os h
  exact ⟨.inl rfl,hfin⟩
theorem Khj : ∀ p r,Kha p = some r → Khe p r := Khi.1
theorem Khk : ∀ p r,Khb p = some r → Khf p r := Khi.2.1
theorem Khl : ∀ p r,Khc p = some r → Khg p r := Khi.2.2.1
theorem Khm : ∀ p r,Khd p = some r → Khh p r := Khi.2.2.2
def Khn (c : Ctx) : Int → Exit → Q0a → Prop
 | a0 => Qdf c (.exit 0) (mkS [(1,I a0)] [])
mutual
def Kho (p : K01 × Int) : Option (Int) :=
 match p with
 | (t0,left1) =>
  (Khp (t0,(wr (left1 - 1)),0)) >>= fun a0 =>
  some a0
 partial_fixpoint
def Khp (p : K01 × Int × Int) : Option (Int) :=
 match p with
 | (t0,a0,a1) =>
  ((
  if (decide (a1 < (t0.fKids.length : Int))) = true then
  some ((decide (a0 ≥ 0)))
  else
  some (false)
  ) : Option (Bool)) >>= fun a2 =>
  if a2 = true then
  (idx t0.fKids a1) >>= fun a3 =>
  (Kho (a3,a0)) >>= fun a4 =>
  Khp (t0,a4,(wr (a1 + 1)))
  else
  some (a0)
 partial_fixpoint
end
def Khq (p : K01 × Int) (r : Int) : Prop :=
 match p with
 | (t0,left1) => Q75 Tryz.prog 113 [K1z t0,I left1] (I r) []
def Khr (p : K01 × Int × Int) (fl : Int) : Prop :=
 match p with
 | (t0,a0,a1) => ∀ c : Ctx,c.nt = 27 → WpL Tryz.prog c (cl (cl (cr (cl (cr (cr K69)))))) (Khn c fl) (mkS [(1,I a0),(2,.ra 1 0),(5,I a1)] [(1,K1y t0)])
theorem Khs : (∀ p r,Kho p = some r → Khq p r) ∧ (∀ p r,Khp p = some r → Khr p r) := by
 refine Kho.mutual_partial_correctness Khq Khr ?_ ?_
 ·rintro spec_l2Left_l0_f spec_l2Left_l0_ih ⟨t0,left1⟩ r h
  refine b0 Tryz.f113 K69 27 [(0,K1z t0),(1,I left1)] fun c hc => (rsd hc none [nW 1,oN] [0] [(2,.ra 1 0)] [(1,K1y t0)] tv (K9o hc 3 [1] [(1,I (wr (left1 - 1)))] (sN (K9l hc 1 [(1,I (wr (left1 - 1))),(2,.ra 1 0),(5,I 0)] (bk 0 ?_)))))
  obtain ⟨a0,a1,h⟩ := Qdt h
  have hL := spec_l2Left_l0_ih _ _ a1 c hc
  refine lp (wl hL ?_)
  obtain rfl := os h
  exact Qd7 (rs0 hc 2 [(4,I a0)] [] (rt (rq [true])))
 ·rintro spec_l2Left_f spec_l2Left_l0_f spec_l2Left_ih spec_l2Left_l0_ih ⟨t0,a2,a3⟩ r h
  intro c hc
  refine WpL.step (sN (sN ?_))
  obtain ⟨a4,a5,h⟩ := Qdt h
  refine wi [] [(16,.bool a4)] ?_ ?_
  ·replace h := a5
   rcases is h with ⟨a6,h⟩ | ⟨a6,h⟩
   ·obtain rfl := os h
    exact rj hc none ([oN,oN,oN,nQ ⟨[(11,I (t0.fKids.length : Int))],[],[]⟩]++nN 4 [oT]) (ai (Qdz (d := 11) K0h t0.fKids) (ar 3 a6 tv))
   obtain rfl := os h
   exact rj hc none [oN,oN,oN,nQ ⟨[(11,I (t0.fKids.length : Int))],[],[]⟩,oN,oN,o_,o_,oF] (ai (Qdz (d := 11) K0h t0.fKids) (ar 2 (neT a6) (ai a6 tv)))
  clear a5
  refine ic h (fun a7 h => ?_) fun a7 h => ?_
  ·refine sk (sN (bk 1 ?_))
   obtain ⟨a8,a9,b1,b2,h⟩ := bq2 h
   exact K9j hc none [oN,oN,oN,eL (K1z a8),oN,oN,oc (I b1),oN] [16,1] [(1,I b1)] (ai (Qdx a9 (K0o a8)) (cq (spec_l2Left_ih _ _ b2) K6a tv)) (ri0 hc 3 (Qdb (spec_l2Left_l0_ih _ _ h c hc)))
  obtain rfl := os h
  exact xt 0 (Qd5 (Qdc (iv [])))
theorem Kht : ∀ p r,Kho p = some r → Khq p r := Khs.1
theorem Khu : ∀ p r,Khp p = some r → Khr p r := Khs.2
def Khv (c : Ctx) (c0 : K02) (s1 : K00) (ctx2 : LL) (deep3 : Int) (data4 : Bool) : (Int × Int × (List Int) × (List K01) × (List Int) × Int × Int) ⊕ ((K01 × K02)) → Exit → Q0a → Prop
 | .inl (a0,a1,a2,a3,a4,a5,a6) => Qdf c (.exit 0) (mkS [(10,.ra 2 0),(11,.ra 4 0)] [(2,zT),(4,.box [I a0,I a1,sI a2,sM K0h a3]),(1000,.box [sM U8 a4,I a5,I a6])])
 | .inr r => Qdr TIx Tryz.f201 [K23 c0,K1w s1,sL ctx2,I deep3,.bool data4] (K1z r.1,[K23 r.2,.undef,.undef,.undef,.undef])
def Khw (p : K02 × K00 × LL × Int × Bool × (List Int) × Int × Int × Int × Int × (List Int) × (List K01) × Int) : Option ((Int × Int × (List Int) × (List K01) × (List Int) × Int × Int) ⊕ ((K01 × K02))) :=
 match p with
 | (c0,s1,ctx2,deep3,data4,a0,a1,a2,a3,a4,a5,a6,a7) =>
  if (decide (a7 < 3)) = true then
  ((
  (Kho ((K01.mk a3 a4 a5 a6),120)) >>= fun a8 =>
  if (decide (a8 ≥ 0)) = true then
  (Kg0 (s1,ctx2,(K01.mk a3 a4 a5 a6))) >>= fun a9 =>
  some ((a9.ffault == 0))
  else
  some (false)
  ) : Option (Bool)) >>= fun b1 =>
  if b1 = true then
  some (.inr ((K01.mk a3 a4 a5 a6),(K02.mk a0 a1 a2)))
  else
  (Kdv ((K02.mk a0 a1 a2),s1,1,data4)) >>= fun (b2,b3) =>
  (Ka0 (deep3,2)) >>= fun b4 =>
  (Kha (b3,s1,ctx2,b2,b4)) >>= fun (b5,b6) =>
  Khw (c0,s1,ctx2,deep3,data4,b6.fb,b6.fi,b6.fh,b5.fOp,b5.fN,b5.fType,b5.fKids,(wr (a7 + 1)))
  else
  some (.inl (a3,a4,a5,a6,a0,a1,a2))
 partial_fixpoint
def Khx (p : K02 × K00 × LL × Int × Bool × (List Int) × Int × Int × Int × Int × (List Int) × (List K01) × Int) (fl : (Int × Int × (List Int) × (List K01) × (List Int) × Int × Int) ⊕ ((K01 × K02))) : Prop :=
 match p with
 | (c0,s1,ctx2,deep3,data4,a0,a1,a2,a3,a4,a5,a6,a7) => ∀ c : Ctx,c.nt = 53 → WpL Tryz.prog c (cl (cl (cr (cl (cr (cr K6b)))))) (Khv c c0 s1 ctx2 deep3 data4 fl) (mkS [(0,.ra 1000 0),(2,sL ctx2),(3,I deep3),(4,.bool data4),(6,.ra 1 0),(10,.ra 2 0),(11,.ra 4 0),(12,I a7)] [(1,K1v s1),(2,zT),(4,.box [I a3,I a4,sI a5,sM K0h a6]),(1000,.box [sM U8 a0,I a1,I a2])])
theorem Khy : ∀ p r,Khw p = some r → Khx p r := by
 refine Khw.partial_correctness Khx ?_
 rintro spec_dIn_l0_f spec_dIn_l0_ih ⟨c0,s1,ctx2,deep3,data4,a0,a1,a2,a3,a4,a5,a6,a7⟩ r h
 intro c hc
 refine WpL.step (sN (K9o hc 2 [] [(23,.bool (decide (a7 < 3)))] (ic h (fun a8 h => ?_) fun a8 h => ?_)))
 ·refine sk (sN (bk 1 (sN (sN ?_))))
  obtain ⟨a9,b1,h⟩ := Qdt h
  refine wi [23] [(36,.bool a9)] ?_ ?_
  ·replace h := b1
   obtain ⟨b2,b3,h⟩ := Qdt h
   rcases is h with ⟨b4,h⟩ | ⟨b4,h⟩
   ·obtain ⟨b5,b6,h⟩ := Qdt h
    obtain rfl := os h
    exact rj hc none ([oN,oc (I b2)]++nN 5 [oc (K25 b5),oN,oN,oT]) (cq (Kht _ _ b3) K6a (ar 4 b4 (cq (Kg9 _ _ b6) K5y (ar 3 b4 tv))))
   obtain rfl := os h
   exact rj hc none ([oN,oc (I b2),oN,oN]++n_ 6 [oF]) (cq (Kht _ _ b3) K6a (ar 6 (neT b4) (ai b4 tv)))
  clear b1
  refine ic h (fun b7 h => ?_) fun b7 h => ?_
  ·obtain rfl := os h
   exact rs0 hc 2 [(10,.ra 2 0)] [(2,.box [I a3,I a4,sI a5,sM K0h a6]),(1000,.box [sM U8 a0,I a1,I a2])] (rt (rp [false]))
  refine sk ?_
  obtain ⟨⟨b8,b9⟩,c1,h⟩ := Qdt h
  obtain ⟨c2,c3,⟨c4,c5⟩,c6,h⟩ := bq2 h
  exact rgd hc (rx [[0],[0],[0],[0],[0],[0],[0,3,4,5],[0],[0,3,4,5,6,7],[9],[10]]) (nN 6 [some (.call (sI b8) [K23 b9,.undef,.undef,.undef] 1),oN,oc (I c2),some (.call (K1z c4) [K23 c5,.undef,.undef,.undef,.undef] 1),oN]) [36] [] [(1,K1v s1),(2,zT),(4,K1y c4),(1000,K21 c5)] (ab (Q75.res (r2 := sI b8) (by simp only [share,Q02,Qel]) (Q75.shr (Kdx _ _ c1))) K4o (cq (Ka2 _ _ c3) K3e (ab (Khj _ _ c6) K50 tv))) (ri0 hc 3 (Qdb (spec_dIn_l0_ih _ _ h c hc)))
 obtain rfl := os h
 exact xt 0 (Qd5 (Qdc (iv [])))
def Khz (p : K02 × K00 × LL × Int × Bool) : Option (K01 × K02) :=
 match p with
 | (c0,s1,ctx2,deep3,data4) =>
  (Kdv (c0,s1,2,data4)) >>= fun (a0,a1) =>
  (Kha (a1,s1,ctx2,a0,deep3)) >>= fun (a2,a3) =>
  (Khw (c0,s1,ctx2,deep3,data4,a3.fb,a3.fi,a3.fh,a2.fOp,a2.fN,a2.fType,a2.fKids,0)) >>= fun fl => match fl with
  | .inl (a4,a5,a6,a7,a8,a9,b1) =>
   (Kho ((K01.mk a4 a5 a6 a7),400)) >>= fun b2 =>
   ((
   if (decide (b2 < 0)) = true then
   (Kec (1,1,[])) >>= fun b3 =>
   some ((b3.fOp,b3.fN,b3.fType,b3.fKids))
   else
   some ((a4,a5,a6,a7))
   ) : Option (Int × Int × (List Int) × (List K01))) >>= fun (b4,b5,b6,b7) =>
   some ((K01.mk b4 b5 b6 b7),(K02.mk a8 a9 b1))
  | .inr r =>
   some r
def Ki0 (p : K02 × K00 × LL × Int × Bool) (r : K01 × K02) : Prop :=
 match p with
 | (c0,s1,ctx2,deep3,data4) => Q75 Tryz.prog 201 [K23 c0,K1w s1,sL ctx2,I deep3,.bool data4] (K1z r.1) [K23 r.2,.undef,.undef,.undef,.undef]
theorem Ki1 : ∀ p r,Khz p = some r → Ki0 p r := by
 rintro ⟨c0,s1,ctx2,deep3,data4⟩ r h
 unfold Khz at h
 refine Q75.bodyO K3a (fn := Tryz.f201) (code := K6b) (by kernel_rfl) (by kernel_rfl) (by kernel_rfl) (nt := 53) (by kernel_rfl) (by kernel_rfl) (T := [(0,.ra 1000 0),(1,K1w s1),(2,sL ctx2),(3,I deep3),(4,.bool data4)]) (O := [(1000,K21 c0)]) (by kernel_rfl) (by kernel_rfl) (fun c hc => ?_)
 refine rs hc none [nW 1,nW 2] [(0,.ra 1000 0),(2,sL ctx2),(3,I deep3),(4,.bool data4),(6,.ra 1 0),(10,.ra 2 0)] [(1,K1v s1),(2,zT),(1000,K21 c0)] tv ?_
 obtain ⟨⟨a0,a1⟩,a2,h⟩ := Qdt h
 obtain ⟨⟨a3,a4⟩,a5,h⟩ := Qdt h
 refine rsd hc (rx [[0],[0],[0],[0],[0],[0],[0,3,4,5],[0],[8],[0],[10]]) (nN 6 [some (.call (sI a0) [K23 a1,.undef,.undef,.undef] 1),oN,some (.call (K1z a3) [K23 a4,.undef,.undef,.undef,.undef] 1),nW 4,oN]) [] [(11,.ra 4 0)] [(1,K1v s1),(2,zT),(4,K1y a3),(1000,K21 a4)] (ad (Q75.res (r2 := sI a0) (by simp only [share,Q02,Qel]) (Q75.shr (Kdx _ _ a2))) K4o (Khj _ _ a5) K50 tv) (sN (K9l hc 1 [(0,.ra 1000 0),(2,sL ctx2),(3,I deep3),(4,.bool data4),(6,.ra 1 0),(10,.ra 2 0),(11,.ra 4 0),(12,I 0)] (bk 0 ?_)))
 obtain ⟨fl,a6,h⟩ := Qdt h
 have hL := Khy _ _ a6 c hc
 refine lp ?_
 rcases fl with ⟨a7,a8,a9,b1,b2,b3,b4⟩ | r
 ·refine wl hL (Qd7 (sN ?_))
  obtain ⟨b5,b6,h⟩ := Qdt h
  refine K9n hc none [oN,oc (I b5),oN] [] [(50,.bool (decide (b5 < 0)))] (cq (Kht _ _ b6) K6a tv) ?_
  obtain ⟨⟨b7,b8,b9,c1⟩,c2,h⟩ := Qdt h
  refine Wp.into (x := .normal) (mkS [(10,.ra 2 0),(11,.ra 4 0)] [(2,zT),(4,.box [I b7,I b8,sI b9,sM K0h c1]),(1000,.box [sM U8 b2,I b3,I b4])]) ?_ ?_
  ·replace h := c2
   refine ic h (fun c3 h => ?_) fun c3 h => ?_
   ·obtain ⟨c4,c5,h⟩ := Qdt h
    obtain ⟨rfl,hq0⟩ := Prod.mk.inj (os h)
    obtain ⟨rfl,hq1⟩ := Prod.mk.inj (hq0)
    obtain ⟨rfl,rfl⟩ := Prod.mk.inj (hq1)
    exact rj hc none [oc (K1z c4),oN] (cq (Q75.args (A1 := [I 1,I 1,.sl []]) (A2 := [I 1,I 1,.sl (List.map K0h [])]) (by simp only [List.map_nil]) (Kee _ _ c5)) K4w tv)
   refine sk ?_
   obtain ⟨rfl,hq0⟩ := Prod.mk.inj (os h)
   obtain ⟨rfl,hq1⟩ := Prod.mk.inj (hq0)
   obtain ⟨rfl,rfl⟩ := Prod.mk.inj (hq1)
   exact iv []
  clear c2
  obtain rfl := os h
  exact K9m hc 2 [11] [] [(2,.box [I b7,I b8,sI b9,sM K0h c1]),(1000,.box [sM U8 b2,I b3,I b4])] (rt (rr [false]))
 refine WpL.mono hL ?_
 rintro _ _ ⟨rfl,hfin⟩
 obtain rfl := os h
 exact ⟨.inl rfl,hfin⟩
def Ki2 (p : K02 × Int × Int × Bool) : Option (K00 × LL × K01 × K02) :=
 match p with
 | (c0,deep1,most2,data3) =>
  (Kdl c0) >>= fun (a0,a1) =>
  (Ke2 (a1,a0,most2,data3)) >>= fun (a2,a3) =>
  (Khz (a3,a0,a2,deep1,data3)) >>= fun (a4,a5) =>
  some (a0,a2,a4,a5)
def Ki3 (p : K02 × Int × Int × Bool) (r : K00 × LL × K01 × K02) : Prop :=
 match p with
 | (c0,deep1,most2,data3) => Q75 Tryz.prog 137 [K23 c0,I deep1,I most2,.bool data3] (.tup [K1w r.1,.sl (List.map K14 r.2.1),K1z r.2.2.1]) [K23 r.2.2.2,.undef,.undef,.undef]
theorem Ki4 : ∀ p r,Ki2 p = some r → Ki3 p r := by
 rintro ⟨c0,deep1,most2,data3⟩ r h
 unfold Ki2 at h
 refine Q75.bodyO K3a (fn := Tryz.f137) (code := K6d) (by kernel_rfl) (by kernel_rfl) (by kernel_rfl) (nt := 28) (by kernel_rfl) (by kernel_rfl) (T := [(0,.ra 1000 0),(1,I deep1),(2,I most2),(3,.bool data3)]) (O := [(1000,K21 c0)]) (by kernel_rfl) (by kernel_rfl) (fun c hc => ?_)
 refine rs hc none [nW 1,oN,nW 2] [(0,.ra 1000 0),(1,I deep1),(2,I most2),(3,.bool data3),(8,.ra 1 0),(10,.ra 2 0)] [(1,zS),(2,zT),(1000,K21 c0)] tv ?_
 obtain ⟨⟨a0,a1⟩,a2,h⟩ := Qdt h
 refine rs hc none [oN,some (.call (K2d a0) [K23 a1] 3),nW 6,oN] [(0,.ra 1000 0),(1,I deep1),(2,I most2),(3,.bool data3),(8,.ra 1 0),(10,.ra 2 0),(11,.ra 6 0)] [(1,zS),(2,zT),(3,rI a0.fPlus),(4,rI a0.fTimes),(5,rM AV.bool a0.fBelow),(6,.box [I a0.fSize,.rs 3,.rs 4,.rs 5]),(1000,K21 a1)] (ab (Kdn _ _ a2) K4n tv) (sN (vz 3 (Qel a0.fPlus) [(0,.ra 1000 0),(1,I deep1),(2,I most2),(3,.bool data3),(8,.ra 1 0),(10,.ra 2 0),(11,.ra 6 0)] [(1,zS),(2,zT),(4,rI a0.fTimes),(5,rM AV.bool a0.fBelow),(6,.box [I a0.fSize,sI a0.fPlus,.rs 4,.rs 5]),(1000,K21 a1)] (vz 4 (Qel a0.fTimes) [(0,.ra 1000 0),(1,I deep1),(2,I most2),(3,.bool data3),(8,.ra 1 0),(10,.ra 2 0),(11,.ra 6 0)] [(1,zS),(2,zT),(5,rM AV.bool a0.fBelow),(6,.box [I a0.fSize,sI a0.fPlus,sI a0.fTimes,.rs 5]),(1000,K21 a1)] (vz 5 (Qen a0.fBelow) [(0,.ra 1000 0),(1,I deep1),(2,I most2),(3,.bool data3),(8,.ra 1 0),(10,.ra 2 0),(11,.ra 6 0)] [(1,zS),(2,zT),(6,K1v a0),(1000,K21 a1)] ?_))))
 obtain ⟨⟨a3,a4⟩,a5,h⟩ := Qdt h
 refine rg hc none (nN 4 [some (.call (oM K10 a3) [K23 a4,.undef,.undef,.undef] 7),oN]) [(0,.ra 1000 0),(1,I deep1),(3,.bool data3),(8,.ra 1 0),(10,.ra 2 0),(11,.ra 6 0),(12,.rs 7)] [(1,zS),(2,zT),(6,K1v a0),(7,rM K10 a3),(1000,K21 a4)] (ab (Ke4 _ _ a5) K4s tv) (sN (vz 7 (K19 a3) [(0,.ra 1000 0),(1,I deep1),(3,.bool data3),(8,.ra 1 0),(10,.ra 2 0),(11,.ra 6 0),(12,sL a3)] [(1,zS),(2,zT),(6,K1v a0),(1000,K21 a4)] ?_))
 obtain ⟨⟨a6,a7⟩,a8,h⟩ := Qdt h
 obtain rfl := os h
 exact rgd hc (rx [[0],[0],[0],[0],[0],[0],[0],[0,2,3,4,5,6],[1,2,3,4,5,6,7],[9],[10]]) (nN 7 [some (.call (K1z a6) [K23 a7,.undef,.undef,.undef,.undef] 1),oN,oN,oN]) [0,1,3,11,12] [(9,sL a3)] [(1,K1v a0),(2,K1y a6),(1000,K21 a7)] (ab (Ki1 _ _ a8) K6c tv) (rt (rr [false,false,false]))
def Ki5 (p : K02 × (List Int)) : Option (Int × K02) :=
 match p with
 | (c0,list1) =>
  (Ka9 (c0,(list1.length : Int))) >>= fun (a0,a1) =>
  (idx list1 a0) >>= fun a2 =>
  some (a2,a1)
def Ki6 (p : K02 × (List Int)) (r : Int × K02) : Prop :=
 match p with
 | (c0,list1) => Q75 Tryz.prog 156 [K23 c0,sI list1] (I r.1) [K23 r.2,.undef]
theorem Ki7 : ∀ p r,Ki5 p = some r → Ki6 p r := by
 rintro ⟨c0,list1⟩ r h
 unfold Ki5 at h
 refine Q75.bodyO K3a (fn := Tryz.f156) (code := K6f) (by kernel_rfl) (by kernel_rfl) (by kernel_rfl) (nt := 12) (by kernel_rfl) (by kernel_rfl) (T := [(0,.ra 1000 0),(1,sI list1)]) (O := [(1000,K21 c0)]) (by kernel_rfl) (by kernel_rfl) (fun c hc => ?_)
 refine K9l hc 1 [(0,.ra 1000 0),(1,sI list1)] ?_
 obtain ⟨⟨a0,a1⟩,a2,h⟩ := Qdt h
 obtain ⟨a3,a4,h⟩ := Qdt h
 obtain rfl := os h
 exact rs hc none [oN,oN,oN,nQ ⟨[(8,I (list1.length : Int))],[],[]⟩,some (.call (I a0) [K23 a1,.undef] 1),eL (I a3),oN,oN] [(4,I a3)] [(1000,K21 a1)] (ad (Qdz (d := 8) I list1) (Kab _ _ a2) K3j (ix a4) tv) (rt (rr [true]))
theorem Ki8 {op N : Int} {ty : List Int} {ks : List K01} {enc : K01 → AV} (h : Q02 (List.map enc ks) = List.map K0h ks) : share (AV.agg [I op,I N,oI ty,oM enc ks]) = K0h (K01.mk op N ty ks) :=
 (show share (AV.agg [I op,I N,oI ty,oM enc ks]) = AV.agg [I op,I N,.sl (Q02 (List.map I ty)),.sl (Q02 (List.map enc ks))] from rfl).trans ((by rw [h,Qel] : AV.agg [I op,I N,.sl (Q02 (List.map I ty)),.sl (Q02 (List.map enc ks))] = AV.agg [I op,I N,sI ty,sM K0h ks]).trans (K0o (K01.mk op N ty ks)).symm)
theorem Ki9 (u : K01) : K01.mk u.fOp u.fN u.fType u.fKids = u := by cases u; rfl
def Kia (p : K02 × (List K01) × Int) : Option (List K01 × K02) :=
 match p with
 | (c0,xs,ix) =>
  (idx xs ix) >>= fun e0 =>
  ((
  if (decide ((e0.fKids.length : Int) > 0)) = true then
  (Ka9 (c0,3)) >>= fun (a0,a1) =>
  some ((a1.fb,a1.fi,a1.fh,(decide (a0 > 0))))
  else
  some ((c0.fb,c0.fi,c0.fh,false))
  ) : Option ((List Int) × Int × Int × Bool)) >>= fun (a2,a3,a4,a5) =>
  if a5 = true then
  (Ka9 ((K02.mk a2 a3 a4),(e0.fKids.length : Int))) >>= fun (a6,a7) =>
  (idx e0.fKids a6) >>= fun a8 =>
  (Kia (a7,e0.fKids,a6)) >>= fun (ks,c2) => some ((List.set xs (Int.toNat ix) (K01.mk e0.fOp e0.fN e0.fType ks)),c2)
  else
  (Ka9 ((K02.mk a2 a3 a4),6)) >>= fun (a9,b1) =>
  if (a9 == 0) = true then
  (Ka9 (b1,15)) >>= fun (b2,b3) =>
  some ((List.set xs (Int.toNat ix) (K01.mk (wr (b2 - 1)) e0.fN e0.fType e0.fKids)),b3)
  else
  ((
  if (a9 == 1) = true then
  some ((a9 == 1))
  else
  some ((a9 == 2))
  ) : Option (Bool)) >>= fun b4 =>
  if b4 = true then
  (Ki5 (b1,[(-2),(-1),0,1,2,3,7,8,16])) >>= fun (b5,b6) =>
  some ((List.set xs (Int.toNat ix) (K01.mk e0.fOp b5 e0.fType e0.fKids)),b6)
  else
  if (a9 == 3) = true then
  (Ki5 (b1,[0,1,35,99])) >>= fun (b7,b8) =>
  some ((List.set xs (Int.toNat ix) (K01.mk e0.fOp e0.fN [b7] e0.fKids)),b8)
  else
  if (a9 == 4) = true then
  (Qe6 (e0.fKids.length + [(K01.mk 0 0 [] [])].length) 64) >>= fun _ =>
  (idx (e0.fKids ++ [(K01.mk 0 0 [] [])]) (e0.fKids.length : Int)) >>= fun b9 =>
  some ((List.set xs (Int.toNat ix) (K01.mk e0.fOp e0.fN e0.fType (List.set (e0.fKids ++ [(K01.mk 0 0 [] [])]) (Int.toNat (e0.fKids.length : Int)) (K01.mk 1 0 [] [])))),b1)
  else
  if (decide ((e0.fKids.length : Int) > 1)) = true then
  (idx e0.fKids 0) >>= fun c1 =>
  (idx e0.fKids 1) >>= fun c3 =>
  (idx e0.fKids 0) >>= fun c4 =>
  (idx (List.set e0.fKids (Int.toNat 0) c3) 1) >>= fun c5 =>
  some ((List.set xs (Int.toNat ix) (K01.mk e0.fOp e0.fN e0.fType (List.set (List.set e0.fKids (Int.toNat 0) c3) (Int.toNat 1) c1))),b1)
  else
  some (xs,b1)
 partial_fixpoint
def Kib (p : K02 × (List K01) × Int) (r : List K01 × K02) : Prop :=
 match p with
 | (c0,xs,ix) => ∀ c : Ctx,c.nt = 108 → ∀ (v4 v5 : Value) (e0 : K01),idx xs ix = some e0 → ∀ a w,SRx c (mkS [(0,.ra 1000 0),(4,.raw v4),(5,.raw v5),(6,.ea 1001 4 (Int.toNat ix) 0)] [(1000,K21 c0),(1001,.arx (List.map K0k xs) (Int.toNat ix) 3 1002),(1002,rM K0k e0.fKids)]) a w → WpR Tryz.prog (cl (cl (cl (cr (cr (cr (cr K6h))))))) (Qfi Tryz.prog c 0 (cl (cr (cr (cr (cr (cr K6h)))))) (mkS [(4,.raw v4),(5,.raw v5)] [(1000,K21 r.2),(1001,rM K0h r.1)])) a w
theorem Kic : ∀ p r,Kia p = some r → Kib p r := by
 refine Kia.partial_correctness Kib ?_
 rintro spec_dSpoil_l0_f spec_dSpoil_l0_ih ⟨c0,xs,ix⟩ r h
 intro c hc v4 v5 e0 he0 a w hs
 refine WpR.deep (σ := mkS [(0,.ra 1000 0),(4,.raw v4),(5,.raw v5),(6,.ea 1001 4 (Int.toNat ix) 0)] [(1000,K21 c0),(1001,.arx (List.map K0k xs) (Int.toNat ix) 3 1002),(1002,rM K0k e0.fKids)]) ?_ hs
 clear hs a w
 obtain ⟨e0,he1,h⟩ := Qdt h
 obtain rfl := Option.some.inj (he0.symm.trans he1)
 refine sN (sN ?_)
 obtain ⟨⟨a0,a4,a5,a6⟩,a7,h⟩ := Qdt h
 refine Wp.into (x := .normal) (mkS [(0,.ra 1000 0),(4,.raw v4),(5,.raw v5),(6,.ea 1001 4 (Int.toNat ix) 0),(24,.bool a6)] [(1000,.box [sM U8 a0,I a4,I a5]),(1001,.arx (List.map K0k xs) (Int.toNat ix) 3 1002),(1002,rM K0k e0.fKids)]) ?_ ?_
 ·replace h := a7
  rcases is h with ⟨a8,h⟩ | ⟨a8,h⟩
  ·obtain ⟨⟨a9,b1⟩,b2,h⟩ := Qdt h
   obtain ⟨rfl,hq0⟩ := Prod.mk.inj (os h)
   obtain ⟨rfl,hq1⟩ := Prod.mk.inj (hq0)
   obtain ⟨rfl,rfl⟩ := Prod.mk.inj (hq1)
   exact rj hc none [oN,oN,oN,eL (K2f e0),nQ ⟨[(18,I (e0.fKids.length : Int))],[],[]⟩,oN,oN,oN,some (.call (I a9) [K23 b1,.undef] 1),oN,oT] (ab (And.intro (Qdx he0 (K0q e0)).2 (rfl : Int.toNat ix = Int.toNat ix)) (Qdz (d := 18) K0k e0.fKids) (ar 2 a8 (ab (Kab _ _ b2) K3j (ar 2 a8 tv))))
  obtain ⟨rfl,hq0⟩ := Prod.mk.inj (os h)
  obtain ⟨rfl,hq1⟩ := Prod.mk.inj (hq0)
  obtain ⟨rfl,rfl⟩ := Prod.mk.inj (hq1)
  exact rj hc none [oN,oN,oN,eL (K2f e0),nQ ⟨[(18,I (e0.fKids.length : Int))],[],[]⟩,oN,oN,o_,o_,o_,oF] (ab (And.intro (Qdx he0 (K0q e0)).2 (rfl : Int.toNat ix = Int.toNat ix)) (Qdz (d := 18) K0k e0.fKids) (ar 3 (neT a8) (ai a8 tv)))
 clear a7
 refine ic h (fun b3 h => ?_) fun b3 h => ?_
 ·refine sk (bk 1 ?_)
  obtain ⟨⟨b4,b5⟩,b6,h⟩ := Qdt h
  obtain ⟨b7,b8,h⟩ := Qdt h
  refine rg hc (rx [[0],[1],[2],[3],[0],[0],[0,5],[0,5,6],[0,5,6,7],[0,5,6,7,8],[0,4,5,6,7,8,9],[11],[12]]) ([oN,oN,oN,eL (K2f e0)]++nN 4 [eL (K2f e0),nQ ⟨[(34,I (e0.fKids.length : Int))],[],[]⟩,some (.call (I b4) [K23 b5,.undef] 1),oN,oN]) [(0,.ra 1000 0),(4,.raw v4),(5,.raw v5),(6,.ea 1002 4 (Int.toNat b4) 0)] [(1000,K21 b5),(1001,.arx (List.map K0k xs) (Int.toNat ix) 3 1002),(1002,rM K0k e0.fKids)] (ar 2 (And.intro (Qdx he0 (K0q e0)).2 (rfl : Int.toNat ix = Int.toNat ix)) (ad (Qdz (d := 34) K0k e0.fKids) (Kab _ _ b6) K3j (Qdy (enc := K0k) b8) tv)) ?_
  obtain ⟨⟨ks,c2⟩,hz,h⟩ := Qdt h
  obtain rfl := os h
  intro a1 w1 hs1
  have hs2 := SRx.openL 1002 (Int.toNat b4) 3 8 [8,1000,1001,1002] (O' := [(8,rM K0k b7.fKids),(1000,K21 b5),(1001,.arx (List.map K0k xs) (Int.toNat ix) 3 1002),(1002,.arx (List.map K0k e0.fKids) (Int.toNat b4) 3 8)]) (xs := List.map K0k e0.fKids) (ys := List.map K0k b7.fKids) (x0 := K2f b7) hs1 (by kernel_rfl) (Qdx b8 (K0q b7)).2 (by kernel_rfl) (by kernel_rfl) (by kernel_rfl)
  obtain ⟨c',hc',hz1,hout⟩ := SRx.zoomB (T' := [(0,.ra 1000 0),(4,.raw v4),(5,.raw v5),(6,.ea 1001 4 (Int.toNat b4) 0)]) (O' := [(1000,K21 b5),(1001,.arx (List.map K0k e0.fKids) (Int.toNat b4) 3 1002),(1002,rM K0k b7.fKids)]) [(1000,1000),(1001,1002),(1002,8)] hs2 (by intro p hp; simp only [List.mem_cons,List.not_mem_nil,or_false] at hp; rcases hp with rfl | rfl | rfl | rfl <;> exact .inr (by kernel_rfl)) (by kernel_rfl) (by kernel_rfl)
  refine WpR.mono (spec_dSpoil_l0_ih _ _ hz c' (hc'.trans hc) v4 v5 b7 b8 a1 w1 hz1) (fun e a2 w2 hd => Qfi.mono (fun a3 w3 h3 => ?_) hd)
  have h4 := hout a3 w3 [(4,.raw v4),(5,.raw v5)] [(1000,K21 c2),(1001,rM K0h ks)] h3 (by kernel_rfl) [(4,.raw v4),(5,.raw v5)] [(1000,K21 c2),(1001,.arx (List.map K0k xs) (Int.toNat ix) 3 1002),(1002,rM K0h ks)] (by intro p hp; simp only [List.mem_cons,List.not_mem_nil,or_false] at hp; rcases hp with rfl | rfl <;> exact .inl ⟨rfl,by kernel_rfl⟩) (by intro p hp; simp only [List.mem_cons,List.not_mem_nil,or_false] at hp; rcases hp with rfl | rfl | rfl <;> first | exact .inr ⟨1000,rfl,rfl⟩ | exact .inr ⟨1001,rfl,rfl⟩ | exact .inl ⟨rfl,by kernel_rfl⟩)
  exact SRx.shareL 1001 [1000,1001] (xs := List.set (List.map K0k xs) (Int.toNat ix) (AV.agg [I e0.fOp,I e0.fN,oI e0.fType,oM K0h ks])) (xs' := List.map K0h (List.set xs (Int.toNat ix) (K01.mk e0.fOp e0.fN e0.fType ks))) (SRx.closeL 1001 (Int.toNat ix) 3 1002 [1000,1001] (O' := [(1000,K21 c2),(1001,.arr (List.set (List.map K0k xs) (Int.toNat ix) (AV.agg [I e0.fOp,I e0.fN,oI e0.fType,oM K0h ks])))]) (xs := List.map K0k xs) (ys := List.map K0h ks) (x0 := K2f e0) (x1 := AV.agg [I e0.fOp,I e0.fN,oI e0.fType,oM K0h ks]) h4 (by kernel_rfl) (by kernel_rfl) (by kernel_rfl) (Qdx he0 (K0q e0)).2 (by kernel_rfl) (by kernel_rfl) rfl (by kernel_rfl)) (by kernel_rfl) (Qfq (enc := K0k) (enc' := K0h) K1i (v := (K01.mk e0.fOp e0.fN e0.fType ks)) (x1 := AV.agg [I e0.fOp,I e0.fN,oI e0.fType,oM K0h ks]) (Ki8 (K1d _))) (by kernel_rfl)
 refine xt 0 (Qd5 (Qfj.exit ?_))
 obtain ⟨⟨b9,c1⟩,c3,h⟩ := Qdt h
 refine rs hc none [oN,some (.call (I b9) [K23 c1,.undef] 1)] [(0,.ra 1000 0),(4,.raw v4),(5,.raw v5),(6,.ea 1001 4 (Int.toNat ix) 0),(38,I b9)] [(1000,K21 c1),(1001,.arx (List.map K0k xs) (Int.toNat ix) 3 1002),(1002,rM K0k e0.fKids)] (ab (Kab _ _ c3) K3j tv) (bk 2 (K9l hc 2 [(0,.ra 1000 0),(4,.raw v4),(5,.raw v5),(6,.ea 1001 4 (Int.toNat ix) 0),(38,I b9),(68,.bool (b9 == 0))] (ic h (fun c4 h => ?_) fun c4 h => ?_)))
 ·refine Wp.view (fun a w hv => SRx.closeL 1001 (Int.toNat ix) 3 1002 [1000,1001] (xs := List.map K0k xs) (ys := List.map K0k e0.fKids) (x0 := K2f e0) (x1 := K2f e0) hv (by kernel_rfl) (by kernel_rfl) (by kernel_rfl) (Qdx he0 (K0q e0)).2 (by kernel_rfl) (by kernel_rfl) (Qfr (Qdx he0 (K0q e0)).2) (by kernel_rfl)) (?_ : Wp Tryz.prog c _ _ (mkS [(0,.ra 1000 0),(4,.raw v4),(5,.raw v5),(6,.ea 1001 4 (Int.toNat ix) 0),(38,I b9),(68,.bool (b9 == 0))] [(1000,K21 c1),(1001,rM K0k xs)]))
  obtain ⟨⟨c5,c6⟩,c7,h⟩ := Qdt h
  obtain rfl := os h
  exact rg hc none [oN,oN,some (.call (I c5) [K23 c6,.undef] 1),oN,oN,oN,some (.eqv (.el (K2f e0)) ⟨[],[(1001,some (.arr (List.map K0k (List.set xs (Int.toNat ix) (K01.mk (wr (c5 - 1)) e0.fN e0.fType e0.fKids)))))],[]⟩)] [(4,.raw v4),(5,.raw v5)] [(1000,K21 c6),(1001,.arr (List.map K0k (List.set xs (Int.toNat ix) (K01.mk (wr (c5 - 1)) e0.fN e0.fType e0.fKids))))] (ad (Kab _ _ c7) K3j (congrArg (fun z => (⟨[],[(1001,some (.arr z))],[]⟩ : Wr)) (Qew (enc := K0k) (i := Int.toNat ix) (l := xs) (v := (K01.mk (wr (c5 - 1)) e0.fN e0.fType e0.fKids)) (x := AV.agg [I (wr (c5 - 1)),I e0.fN,oI e0.fType,oM K0k e0.fKids]) (K0q (K01.mk (wr (c5 - 1)) e0.fN e0.fType e0.fKids)))) (Qdx he0 (K0q e0)).2 tv) (Qdf.view (fun a w hv => SRx.renL [] (SRx.shareL 1001 [1000,1001] (O' := [(1000,K21 c6),(1001,.arr (List.map K0h (List.set xs (Int.toNat ix) (K01.mk (wr (c5 - 1)) e0.fN e0.fType e0.fKids))))]) (xs := List.map K0k (List.set xs (Int.toNat ix) (K01.mk (wr (c5 - 1)) e0.fN e0.fType e0.fKids))) (xs' := List.map K0h (List.set xs (Int.toNat ix) (K01.mk (wr (c5 - 1)) e0.fN e0.fType e0.fKids))) hv (by kernel_rfl) (K1i _) (by kernel_rfl)) (by kernel_rfl) (by kernel_rfl) (by kernel_rfl)))
 refine sN (K9o hc 2 [68] [(76,.bool (b9 == 1))] ?_)
 obtain ⟨c8,c9,h⟩ := Qdt h
 refine Wp.into (x := .normal) (mkS [(0,.ra 1000 0),(4,.raw v4),(5,.raw v5),(6,.ea 1001 4 (Int.toNat ix) 0),(38,I b9),(76,.bool c8)] [(1000,K21 c1),(1001,.arx (List.map K0k xs) (Int.toNat ix) 3 1002),(1002,rM K0k e0.fKids)]) ?_ ?_
 ·replace h := c9
  refine ic h (fun d0 h => ?_) fun d0 h => ?_
  ·obtain rfl := os h
   exact sk im
  obtain rfl := os h
  exact rj0 hc 2
 clear c9
 refine ic h (fun d1 h => ?_) fun d1 h => ?_
 ·refine Wp.view (fun a w hv => SRx.closeL 1001 (Int.toNat ix) 3 1002 [1000,1001] (xs := List.map K0k xs) (ys := List.map K0k e0.fKids) (x0 := K2f e0) (x1 := K2f e0) hv (by kernel_rfl) (by kernel_rfl) (by kernel_rfl) (Qdx he0 (K0q e0)).2 (by kernel_rfl) (by kernel_rfl) (Qfr (Qdx he0 (K0q e0)).2) (by kernel_rfl)) (?_ : Wp Tryz.prog c _ _ (mkS [(0,.ra 1000 0),(4,.raw v4),(5,.raw v5),(6,.ea 1001 4 (Int.toNat ix) 0),(38,I b9),(76,.bool c8)] [(1000,K21 c1),(1001,rM K0k xs)]))
  obtain ⟨⟨d2,d3⟩,d4,h⟩ := Qdt h
  obtain rfl := os h
  exact rg hc none [oN,oN,some (.call .undef [] 9),some (.call (I d2) [K23 d3,.undef] 1),oN,oN,some (.eqv (.el (K2f e0)) ⟨[],[(1001,some (rM K0k (List.set xs (Int.toNat ix) (K01.mk e0.fOp d2 e0.fType e0.fKids))))],[]⟩)] [(4,.raw v4),(5,.raw v5)] [(1000,K21 d3),(1001,rM K0k (List.set xs (Int.toNat ix) (K01.mk e0.fOp d2 e0.fType e0.fKids)))] (ad (Ki7 _ _ d4) K6g (congrArg (fun z => (⟨[],[(1001,some (.arr z))],[]⟩ : Wr)) (Qew (enc := K0k) (i := Int.toNat ix) (l := xs) (v := (K01.mk e0.fOp d2 e0.fType e0.fKids)) (x := AV.agg [I e0.fOp,I d2,oI e0.fType,oM K0k e0.fKids]) (K0q (K01.mk e0.fOp d2 e0.fType e0.fKids)))) (Qdx he0 (K0q e0)).2 tv) (Qdf.view (fun a w hv => SRx.renL [] (SRx.shareL 1001 [1000,1001] (O' := [(1000,K21 d3),(1001,rM K0h (List.set xs (Int.toNat ix) (K01.mk e0.fOp d2 e0.fType e0.fKids)))]) (xs := List.map K0k (List.set xs (Int.toNat ix) (K01.mk e0.fOp d2 e0.fType e0.fKids))) (xs' := List.map K0h (List.set xs (Int.toNat ix) (K01.mk e0.fOp d2 e0.fType e0.fKids))) hv (by kernel_rfl) (K1i _) (by kernel_rfl)) (by kernel_rfl) (by kernel_rfl) (by kernel_rfl)))
 refine K9l hc 2 [(0,.ra 1000 0),(4,.raw v4),(5,.raw v5),(6,.ea 1001 4 (Int.toNat ix) 0),(38,I b9),(85,.bool (b9 == 3))] (ic h (fun d5 h => ?_) fun d5 h => ?_)
 ·refine Wp.view (fun a w hv => SRx.closeL 1001 (Int.toNat ix) 3 1002 [1000,1001] (xs := List.map K0k xs) (ys := List.map K0k e0.fKids) (x0 := K2f e0) (x1 := K2f e0) hv (by kernel_rfl) (by kernel_rfl) (by kernel_rfl) (Qdx he0 (K0q e0)).2 (by kernel_rfl) (by kernel_rfl) (Qfr (Qdx he0 (K0q e0)).2) (by kernel_rfl)) (?_ : Wp Tryz.prog c _ _ (mkS [(0,.ra 1000 0),(4,.raw v4),(5,.raw v5),(6,.ea 1001 4 (Int.toNat ix) 0),(38,I b9),(85,.bool (b9 == 3))] [(1000,K21 c1),(1001,rM K0k xs)]))
  refine Wp.view (fun a w hv => SRx.shareL 1001 [1000,1001] (xs := List.map K0k xs) (xs' := List.map K0h xs) hv (by kernel_rfl) (K1i _) (by kernel_rfl)) (?_ : Wp Tryz.prog c _ _ (mkS [(0,.ra 1000 0),(4,.raw v4),(5,.raw v5),(6,.ea 1001 4 (Int.toNat ix) 0),(38,I b9),(85,.bool (b9 == 3))] [(1000,K21 c1),(1001,rM K0h xs)]))
  obtain ⟨⟨d6,d7⟩,d8,h⟩ := Qdt h
  obtain rfl := os h
  exact rg hc none [oN,oN,some (.call .undef [] 10),some (.call (I d6) [K23 d7,.undef] 1),some (.call .undef [] 11),oN,oN,some (.eqv (.el (K1z e0)) ⟨[],[(1001,some (rM K0h (List.set xs (Int.toNat ix) (K01.mk e0.fOp e0.fN [d6] e0.fKids))))],[]⟩)] [(4,.raw v4),(5,.raw v5)] [(1000,K21 d7),(1001,rM K0h (List.set xs (Int.toNat ix) (K01.mk e0.fOp e0.fN [d6] e0.fKids)))] (ad (Ki7 _ _ d8) K6g (congrArg (fun z => (⟨[],[(1001,some (.arr z))],[]⟩ : Wr)) (Qew (enc := K0h) (i := Int.toNat ix) (l := xs) (v := (K01.mk e0.fOp e0.fN [d6] e0.fKids)) (x := AV.agg [I e0.fOp,I e0.fN,.sl (List.map I [d6]),sM K0h e0.fKids]) (K0o (K01.mk e0.fOp e0.fN [d6] e0.fKids)))) (Qdx he0 (K0o e0)).2 tv) (Qdf.view (fun a w hv => SRx.renL [] (hv) (by kernel_rfl) (by kernel_rfl) (by kernel_rfl)))
 refine K9o hc 2 [0,38,85] [(94,.bool (b9 == 4))] (ic h (fun d9 h => ?_) fun d9 h => ?_)
 ·obtain ⟨_,e3,e4,e5,h⟩ := bq2 h
  obtain rfl := os h
  exact rgd hc (rx [[0],[1],[2],[3],[0],[4],[0],[7],[8],[9],[8],[8,10],[8,10,11]]) [oN,oN,oN,eL (K2f e0),oN,nQ ⟨[(101,I (e0.fKids.length : Int))],[],[]⟩,some (.eqv (.mk 12 true) ⟨[(102,.rs 12)],[(12,some (.arr (List.map K0k [(K01.mk 0 0 [] [])])))],[12]⟩),some (.eqv (.mk 13 true) ⟨[(103,.rs 13)],[(13,some (rM K0k (e0.fKids ++ [(K01.mk 0 0 [] [])]))),(1002,none),(12,none)],[13]⟩),oN,some (.eqv (.mk 0 true) ⟨[],[(13,some (.arr (List.map K0k (List.set (e0.fKids ++ [(K01.mk 0 0 [] [])]) (Int.toNat (e0.fKids.length : Int)) (K01.mk 1 0 [] [])))))],[]⟩),oN,oN,eL (K2f e0)] [94,6] [] [(13,.arr (List.map K0k (List.set (e0.fKids ++ [(K01.mk 0 0 [] [])]) (Int.toNat (e0.fKids.length : Int)) (K01.mk 1 0 [] [])))),(1000,K21 c1),(1001,.arx (List.map K0k xs) (Int.toNat ix) 3 13)] (ad (And.intro (Qdx he0 (K0q e0)).2 (rfl : Int.toNat ix = Int.toNat ix)) (Qdz (d := 101) K0k e0.fKids) (congrArg (fun z => (⟨[(102,.rs 12)],[(12,some (.arr z))],[12]⟩ : Wr)) ((Qf0 (K0q (K01.mk 0 0 [] [])) Qez) : [AV.agg [I 0,I 0,AV.osl [],AV.osl []]] = List.map K0k [(K01.mk 0 0 [] [])])) (congrArg (fun z => (⟨[(103,.rs 13)],[(13,some (.arr z)),(1002,none),(12,none)],[13]⟩ : Wr)) ((List.map_append).symm : (List.map K0k e0.fKids) ++ (List.map K0k [(K01.mk 0 0 [] [])]) = List.map K0k (e0.fKids ++ [(K01.mk 0 0 [] [])]))) (ad (Qe7 (enc1 := K0k) (enc2 := K0k) (e1 := e0.fKids) (e2 := [(K01.mk 0 0 [] [])]) (sz := 4) K1f K1f e3) (Qdy (enc := K0k) e5) (congrArg (fun z => (⟨[],[(13,some (.arr z))],[]⟩ : Wr)) (Qew (enc := K0k) (i := Int.toNat (e0.fKids.length : Int)) (l := (e0.fKids ++ [(K01.mk 0 0 [] [])])) (v := (K01.mk 1 0 [] [])) (x := AV.agg [I 1,I 0,AV.osl [],AV.osl []]) (K0q (K01.mk 1 0 [] [])))) (Qex (enc := K0k) (sz := 4) K1e e5) (ai (And.intro (Qdx he0 (K0q e0)).2 (rfl : Int.toNat ix = Int.toNat ix)) tv))) (Qdf.view (fun a w hv => SRx.renL [] (SRx.shareL 1001 [1000,1001] (O' := [(1000,K21 c1),(1001,.arr (List.map K0h (List.set xs (Int.toNat ix) (K01.mk e0.fOp e0.fN e0.fType (List.set (e0.fKids ++ [(K01.mk 0 0 [] [])]) (Int.toNat (e0.fKids.length : Int)) (K01.mk 1 0 [] []))))))]) (xs := List.set (List.map K0k xs) (Int.toNat ix) (AV.agg [I e0.fOp,I e0.fN,oI e0.fType,.osl (List.map K0k (List.set (e0.fKids ++ [(K01.mk 0 0 [] [])]) (Int.toNat (e0.fKids.length : Int)) (K01.mk 1 0 [] [])))])) (xs' := List.map K0h (List.set xs (Int.toNat ix) (K01.mk e0.fOp e0.fN e0.fType (List.set (e0.fKids ++ [(K01.mk 0 0 [] [])]) (Int.toNat (e0.fKids.length : Int)) (K01.mk 1 0 [] []))))) (SRx.closeL 1001 (Int.toNat ix) 3 13 [1000,1001] (O' := [(1000,K21 c1),(1001,.arr (List.set (List.map K0k xs) (Int.toNat ix) (AV.agg [I e0.fOp,I e0.fN,oI e0.fType,.osl (List.map K0k (List.set (e0.fKids ++ [(K01.mk 0 0 [] [])]) (Int.toNat (e0.fKids.length : Int)) (K01.mk 1 0 [] [])))])))]) (xs := List.map K0k xs) (ys := List.map K0k (List.set (e0.fKids ++ [(K01.mk 0 0 [] [])]) (Int.toNat (e0.fKids.length : Int)) (K01.mk 1 0 [] []))) (x0 := K2f e0) (x1 := AV.agg [I e0.fOp,I e0.fN,oI e0.fType,.osl (List.map K0k (List.set (e0.fKids ++ [(K01.mk 0 0 [] [])]) (Int.toNat (e0.fKids.length : Int)) (K01.mk 1 0 [] [])))]) hv (by kernel_rfl) (by kernel_rfl) (by kernel_rfl) (Qdx he0 (K0q e0)).2 (by kernel_rfl) (by kernel_rfl) rfl (by kernel_rfl)) (by kernel_rfl) (Qfq (enc := K0k) (enc' := K0h) K1i (v := (K01.mk e0.fOp e0.fN e0.fType (List.set (e0.fKids ++ [(K01.mk 0 0 [] [])]) (Int.toNat (e0.fKids.length : Int)) (K01.mk 1 0 [] [])))) (x1 := AV.agg [I e0.fOp,I e0.fN,oI e0.fType,.osl (List.map K0k (List.set (e0.fKids ++ [(K01.mk 0 0 [] [])]) (Int.toNat (e0.fKids.length : Int)) (K01.mk 1 0 [] [])))]) (Ki8 (K1i _))) (by kernel_rfl)) (by kernel_rfl) (by kernel_rfl) (by kernel_rfl)))
 refine rss hc none [oN,oN,oN,eL (K2f e0),nQ ⟨[(43,I (e0.fKids.length : Int))],[],[]⟩,oN] [(4,.raw v4),(5,.raw v5),(6,.ea 1001 4 (Int.toNat ix) 0),(44,.bool (decide ((e0.fKids.length : Int) > 1)))] (ab (And.intro (Qdx he0 (K0q e0)).2 (rfl : Int.toNat ix = Int.toNat ix)) (Qdz (d := 43) K0k e0.fKids) tv) (ic h (fun e6 h => ?_) fun e6 h => ?_)
 ·refine sN (Wp.view (fun a w hv => SRx.shareL 1002 [1000,1001,1002] (xs := List.map K0k e0.fKids) (xs' := List.map K0h e0.fKids) hv (by kernel_rfl) (K1i _) (by kernel_rfl)) (?_ : Wp Tryz.prog c _ _ (mkS [(4,.raw v4),(5,.raw v5),(6,.ea 1001 4 (Int.toNat ix) 0),(44,.bool (decide ((e0.fKids.length : Int) > 1)))] [(1000,K21 c1),(1001,.arx (List.map K0k xs) (Int.toNat ix) 3 1002),(1002,rM K0h e0.fKids)])))
  obtain ⟨e7,e8,h⟩ := Qdt h
  refine rg hc none [oN,oN,oN,eL (K2f e0),oN,eL (K1z e7),nW 14,oN] [(4,.raw v4),(5,.raw v5),(6,.ea 1001 4 (Int.toNat ix) 0),(7,.ra 14 0)] [(14,K1y e7),(1000,K21 c1),(1001,.arx (List.map K0k xs) (Int.toNat ix) 3 1002),(1002,rM K0h e0.fKids)] (ac (And.intro (Qdx he0 (K0q e0)).2 (rfl : Int.toNat ix = Int.toNat ix)) (Qdy (enc := K0h) e8) (Qdx e8 (K0o e7)).2 tv) ?_
  obtain ⟨e9,f0,f1,f2,h⟩ := bq2 h
  refine rsd hc (rx [[0],[1],[2],[3],[0],[0,4],[0,4,5],[0,4,5,6],[0,4,5,6,7],[0,4,5,6,7,8],[10],[11]]) [oN,oN,oN,eL (K2f e0),oN,oN,oN,eL (K2f e0),oN,eL (K1z e9),oN,some (.eqv (.mk 0 false) ⟨[],[(1002,some (rM K0h (List.set e0.fKids (Int.toNat 0) e9)))],[]⟩)] [] [] [(14,K1y e7),(1000,K21 c1),(1001,.arx (List.map K0k xs) (Int.toNat ix) 3 1002),(1002,rM K0h (List.set e0.fKids (Int.toNat 0) e9))] (ar 2 (And.intro (Qdx he0 (K0q e0)).2 (rfl : Int.toNat ix = Int.toNat ix)) (ad (Qdy (enc := K0h) f0) (Qdx f0 (K0o e9)).2 (Qdy (enc := K0h) f2) (congrArg (fun z => (⟨[],[(1002,some (.arr z))],[]⟩ : Wr)) (Qew (enc := K0h) (i := Int.toNat 0) (l := e0.fKids) (v := e9) (x := K1z e9) (K0o e9))) (ai (Qex (enc := K0h) (sz := 4) K1b f2) tv))) ?_
  obtain ⟨f3,f4,h⟩ := Qdt h
  obtain rfl := os h
  exact rgd hc (rh [0,1,2,3,0,5,6]) [oN,oN,oN,eL (K2f e0),oN,oN,some (.eqv (.mk 0 false) ⟨[],[(1002,some (.arr (List.map K0h (List.set (List.set e0.fKids (Int.toNat 0) e9) (Int.toNat 1) e7))))],[]⟩)] [6,7] [] [(1000,K21 c1),(1001,.arx (List.map K0k xs) (Int.toNat ix) 3 1002),(1002,.arr (List.map K0h (List.set (List.set e0.fKids (Int.toNat 0) e9) (Int.toNat 1) e7)))] (ad (And.intro (Qdx he0 (K0q e0)).2 (rfl : Int.toNat ix = Int.toNat ix)) (Qdy (enc := K0h) f4) (congrArg (fun z => (⟨[],[(1002,some (.arr z))],[]⟩ : Wr)) (Qew (enc := K0h) (i := Int.toNat 1) (l := (List.set e0.fKids (Int.toNat 0) e9)) (v := e7) (x := K1z e7) (K0o e7))) (Qex (enc := K0h) (sz := 4) K1b f4) tv) (Qdf.view (fun a w hv => SRx.renL [] (SRx.shareL 1001 [1000,1001] (O' := [(1000,K21 c1),(1001,.arr (List.map K0h (List.set xs (Int.toNat ix) (K01.mk e0.fOp e0.fN e0.fType (List.set (List.set e0.fKids (Int.toNat 0) e9) (Int.toNat 1) e7)))))]) (xs := List.set (List.map K0k xs) (Int.toNat ix) (AV.agg [I e0.fOp,I e0.fN,oI e0.fType,.osl (List.map K0h (List.set (List.set e0.fKids (Int.toNat 0) e9) (Int.toNat 1) e7))])) (xs' := List.map K0h (List.set xs (Int.toNat ix) (K01.mk e0.fOp e0.fN e0.fType (List.set (List.set e0.fKids (Int.toNat 0) e9) (Int.toNat 1) e7)))) (SRx.closeL 1001 (Int.toNat ix) 3 1002 [1000,1001] (O' := [(1000,K21 c1),(1001,.arr (List.set (List.map K0k xs) (Int.toNat ix) (AV.agg [I e0.fOp,I e0.fN,oI e0.fType,.osl (List.map K0h (List.set (List.set e0.fKids (Int.toNat 0) e9) (Int.toNat 1) e7))])))]) (xs := List.map K0k xs) (ys := List.map K0h (List.set (List.set e0.fKids (Int.toNat 0) e9) (Int.toNat 1) e7)) (x0 := K2f e0) (x1 := AV.agg [I e0.fOp,I e0.fN,oI e0.fType,.osl (List.map K0h (List.set (List.set e0.fKids (Int.toNat 0) e9) (Int.toNat 1) e7))]) hv (by kernel_rfl) (by kernel_rfl) (by kernel_rfl) (Qdx he0 (K0q e0)).2 (by kernel_rfl) (by kernel_rfl) rfl (by kernel_rfl)) (by kernel_rfl) (Qfq (enc := K0k) (enc' := K0h) K1i (v := (K01.mk e0.fOp e0.fN e0.fType (List.set (List.set e0.fKids (Int.toNat 0) e9) (Int.toNat 1) e7))) (x1 := AV.agg [I e0.fOp,I e0.fN,oI e0.fType,.osl (List.map K0h (List.set (List.set e0.fKids (Int.toNat 0) e9) (Int.toNat 1) e7))]) (Ki8 (K1d _))) (by kernel_rfl)) (by kernel_rfl) (by kernel_rfl) (by kernel_rfl)))
 obtain rfl := os h
 exact sk (Qdf.view (fun a w hv => SRx.renL [] (SRx.shareL 1001 [1000,1001] (O' := [(1000,K21 c1),(1001,rM K0h xs)]) (xs := List.set (List.map K0k xs) (Int.toNat ix) (K2f e0)) (xs' := List.map K0h xs) (SRx.closeL 1001 (Int.toNat ix) 3 1002 [1000,1001] (O' := [(1000,K21 c1),(1001,.arr (List.set (List.map K0k xs) (Int.toNat ix) (K2f e0)))]) (xs := List.map K0k xs) (ys := List.map K0k e0.fKids) (x0 := K2f e0) (x1 := K2f e0) hv (by kernel_rfl) (by kernel_rfl) (by kernel_rfl) (Qdx he0 (K0q e0)).2 (by kernel_rfl) (by kernel_rfl) rfl (by kernel_rfl)) (by kernel_rfl) ((Qfq (enc := K0k) (enc' := K0h) K1i (v := (K01.mk e0.fOp e0.fN e0.fType e0.fKids)) (x1 := K2f e0) (Ki8 (K1i _))).trans (congrArg (List.map K0h) ((congrArg (List.set xs (Int.toNat ix)) (Ki9 e0)).trans (Qfr (Qdw he0).2)))) (by kernel_rfl)) (by kernel_rfl) (by kernel_rfl) (by kernel_rfl)))
def Kid (p : K02 × K01) : Option (K01 × K02) :=
 match p with
 | (c0,t1) =>
  (Kac (c0,6)) >>= fun (a0,a1) =>
  if a0 = true then
  (Kgr (t1,0,0)) >>= fun a2 =>
  (Kia (a1,[a2],0)) >>= fun (a3,a4) =>
  (idx a3 0) >>= fun a5 =>
  some (a5,a4)
  else
  some (t1,a1)
def Kie (p : K02 × K01) (r : K01 × K02) : Prop :=
 match p with
 | (c0,t1) => Q75 Tryz.prog 105 [K23 c0,K1z t1] (K1z r.1) [K23 r.2,.undef]
theorem Kif : ∀ p r,Kid p = some r → Kie p r := by
 rintro ⟨c0,t1⟩ r h
 unfold Kid at h
 refine Q75.bodyO K3a (fn := Tryz.f105) (code := K6h) (by kernel_rfl) (by kernel_rfl) (by kernel_rfl) (nt := 108) (by kernel_rfl) (by kernel_rfl) (T := [(0,.ra 1000 0),(1,K1z t1)]) (O := [(1000,K21 c0)]) (by kernel_rfl) (by kernel_rfl) (fun c hc => ?_)
 refine rs hc none [nW 1,nW 2] [(0,.ra 1000 0),(3,.ra 1 0),(4,.ra 2 0)] [(1,K1y t1),(2,zT),(1000,K21 c0)] tv (sN ?_)
 obtain ⟨⟨a0,a1⟩,a4,h⟩ := Qdt h
 refine rsd hc none [oN,some (.call (.bool a0) [K23 a1,.undef] 1),oN] [] [(10,.bool (!a0))] [(1,K1y t1),(2,zT),(1000,K21 a1)] (ab (Kae _ _ a4) K3k tv) ?_
 rcases is h with ⟨a5,h⟩ | ⟨a5,h⟩
 ·refine cF (!a0) (nF a5) (sk ?_)
  obtain ⟨a6,a7,h⟩ := Qdt h
  refine rsd hc none [oN,some (.call (K2f a6) [] 3),nW 5,oN] [10,3] [(5,.ra 5 0)] [(2,zT),(3,rI a6.fType),(4,rM K0k a6.fKids),(5,.box [I a6.fOp,I a6.fN,.rs 3,.rs 4]),(1000,K21 a1)] (cq (Kgw _ _ a7) K68 tv) (K9l hc 1 [(0,.ra 1000 0),(4,.ra 2 0),(5,.ra 5 0),(6,.ra 5 0)] ?_)
  obtain ⟨⟨a8,a9⟩,b1,h⟩ := Qdt h
  refine Wp.view (fun a w hv => SRx.boxRowL 5 6 [2,6,1000] (cs := [I a6.fOp,I a6.fN,.rs 3,.rs 4]) (x1 := K0k a6) hv (by kernel_rfl) (by kernel_rfl) (by kernel_rfl) ((by kernel_rfl : _ = K2f a6).trans (K0q a6).symm) (by kernel_rfl) (by kernel_rfl)) (?_ : Wp Tryz.prog c _ _ (mkS [(0,.ra 1000 0),(4,.ra 2 0),(5,.ea 6 4 (Int.toNat 0) 0),(6,.ea 6 4 (Int.toNat 0) 0)] [(2,zT),(6,.arr (List.map K0k [a6])),(1000,K21 a1)]))
  refine Wp.view (fun a w hv => SRx.openL 6 (Int.toNat 0) 3 7 [2,6,7,1000] (xs := List.map K0k [a6]) (ys := List.map K0k a6.fKids) (x0 := K2f a6) hv (by kernel_rfl) (Qdx (enc := K0k) (i := 0) (l := [a6]) (x := K2f a6) rfl (K0q a6)).2 (by kernel_rfl) (by kernel_rfl) (by kernel_rfl)) (?_ : Wp Tryz.prog c _ _ (mkS [(0,.ra 1000 0),(4,.ra 2 0),(5,.ea 6 4 (Int.toNat 0) 0),(6,.ea 6 4 (Int.toNat 0) 0)] [(2,zT),(6,.arx (List.map K0k [a6]) (Int.toNat 0) 3 7),(7,rM K0k a6.fKids),(1000,K21 a1)]))
  refine Wp.descend (mkS [(4,.ra 2 0),(5,.ea 6 4 (Int.toNat 0) 0)] [(2,zT),(6,rM K0h a8),(1000,K21 a9)]) 0 (by kernel_rfl) (by kernel_rfl) (by kernel_rfl) (by kernel_rfl) (fun a w hv => ?_) ?_
  ·obtain ⟨c',hc',hz1,hout⟩ := SRx.zoomB (T' := [(0,.ra 1000 0),(4,.raw (a.tmps.getD 4 undef)),(5,.raw (a.tmps.getD 5 undef)),(6,.ea 1001 4 (Int.toNat 0) 0)]) (O' := [(1000,K21 a1),(1001,.arx (List.map K0k [a6]) (Int.toNat 0) 3 1002),(1002,rM K0k a6.fKids)]) [(1000,1000),(1001,6),(1002,7)] hv
    (by intro p hp; simp only [List.mem_cons,List.not_mem_nil,or_false] at hp; rcases hp with rfl | rfl | rfl | rfl <;> first | exact .inl ⟨rfl,by kernel_rfl⟩ | exact .inr (by kernel_rfl)) (by kernel_rfl) (by kernel_rfl)
   refine WpR.mono (Kic _ _ b1 c' (hc'.trans hc) (a.tmps.getD 4 undef) (a.tmps.getD 5 undef) a6 rfl a w hz1) (fun e a2 w2 hd => Qfi.mono (fun a3 w3 h3 => ?_) hd)
   exact hout a3 w3 [(4,.raw (a.tmps.getD 4 undef)),(5,.raw (a.tmps.getD 5 undef))] [(1000,K21 a9),(1001,rM K0h a8)] h3 (by kernel_rfl) [(4,.ra 2 0),(5,.ea 6 4 (Int.toNat 0) 0)] [(2,zT),(6,rM K0h a8),(1000,K21 a9)] (by intro p hp; simp only [List.mem_cons,List.not_mem_nil,or_false] at hp; rcases hp with rfl | rfl <;> exact .inr ⟨rfl,rfl⟩) (by intro p hp; simp only [List.mem_cons,List.not_mem_nil,or_false] at hp; rcases hp with rfl | rfl | rfl <;> first | exact .inr ⟨1000,rfl,rfl⟩ | exact .inr ⟨1001,rfl,rfl⟩ | exact .inl ⟨rfl,by kernel_rfl⟩)
  obtain ⟨b2,b3,h⟩ := Qdt h
  obtain rfl := os h
  exact rs hc none [eL (K1z b2),oN] [(4,.ra 2 0)] [(2,K1y b2),(1000,K21 a9)] (ai (Qdx b3 (K0o b2)).2 tv) (rt (rr [false]))
 refine cT (!a0) (nT a5) ?_
 obtain rfl := os h
 exact K9m hc 2 [10,0,3] [] [(2,K1y t1),(1000,K21 a1)] (rt (rr [false]))
def Kig (c : Ctx) (s0 : K00) (in1 : List Bool) (a0 : Int) : (Unit) ⊕ (Bool) → Exit → Q0a → Prop
 | .inl _ => Qdf c (.exit 2) (mkS [(1,sB in1),(2,.ra 1 0),(5,I a0)] [(1,K1v s0)])
 | .inr r => Qdo TIx Tryz.f177 [] (.bool r)
def Kih : Option (List (List Nat)) := rx [[0],[0],[0],[0],[0,1,2,3],[5],[6],[0],[0],[0,7,8],[0,7,8,9],[0,1,2,3,4,7,8,9,10],[0,1,2,3,4,7,8,9,10,11],[0,1,2,3,4,7,8,9,10,11],[0,1,2,3,4,7,8,9,10,11,12,13],[0,1,2,3,4,7,8,9,10,11,12,13,14],[0,1,2,3,4,7,8,9,10,11,12,13,14,15],[17],[18],[19],[19],[19],[19],[19,20,21,22],[24],[25],[19],[19],[19,26,27],[19,26,27,28],[19,20,21,22,23,26,27,28,29],[19,20,21,22,23,26,27,28,29,30],[19,20,21,22,23,26,27,28,29,30],[19,20,21,22,23,26,27,28,29,30,31,32],[19,20,21,22,23,26,27,28,29,30,31,32,33],[19,20,21,22,23,26,27,28,29,30,31,32,33,34],[36],[37],[38],[39],[39],[41],[42],[43],[44],[44],[44],[47],[48],[49],[50],[50],[52],[53],[54],[55],[56]]
def Kii (p : K00 × (List Bool) × Int × Int) : Option ((Unit) ⊕ (Bool)) :=
 match p with
 | (s0,in1,a0,a1) =>
  if (decide (a1 < s0.fSize)) = true then
  ((
  (Kbo (s0,a0,a1)) >>= fun a2 =>
  (idx in1 a2) >>= fun a3 =>
  (idx in1 a0) >>= fun a4 =>
  if a4 = true then
  if (a3 == true) = true then
  (Kbr (s0,a0,a1)) >>= fun a5 =>
  (idx in1 a5) >>= fun a6 =>
  (idx in1 a0) >>= fun a7 =>
  if a7 = true then
  (idx in1 a1) >>= fun a8 =>
  if (a6 == a8) = true then
  (idx in1 a0) >>= fun a9 =>
  if a9 = true then
  (Kbu (s0,a0,a1)) >>= fun b1 =>
  if b1 = true then
  (idx in1 a1) >>= fun b2 =>
  some ((!b2))
  else
  some (false)
  else
  some (false)
  else
  some (true)
  else
  if (a6 == false) = true then
  (idx in1 a0) >>= fun a9 =>
  if a9 = true then
  (Kbu (s0,a0,a1)) >>= fun b1 =>
  if b1 = true then
  (idx in1 a1) >>= fun b2 =>
  some ((!b2))
  else
  some (false)
  else
  some (false)
  else
  some (true)
  else
  some (true)
  else
  (idx in1 a1) >>= fun b3 =>
  if (a3 == b3) = true then
  (Kbr (s0,a0,a1)) >>= fun a5 =>
  (idx in1 a5) >>= fun a6 =>
  (idx in1 a0) >>= fun a7 =>
  if a7 = true then
  (idx in1 a1) >>= fun a8 =>
  if (a6 == a8) = true then
  (idx in1 a0) >>= fun a9 =>
  if a9 = true then
  (Kbu (s0,a0,a1)) >>= fun b1 =>
  if b1 = true then
  (idx in1 a1) >>= fun b2 =>
  some ((!b2))
  else
  some (false)
  else
  some (false)
  else
  some (true)
  else
  if (a6 == false) = true then
  (idx in1 a0) >>= fun a9 =>
  if a9 = true then
  (Kbu (s0,a0,a1)) >>= fun b1 =>
  if b1 = true then
  (idx in1 a1) >>= fun b2 =>
  some ((!b2))
  else
  some (false)
  else
  some (false)
  else
  some (true)
  else
  some (true)
  ) : Option (Bool)) >>= fun b4 =>
  if b4 = true then
  some (.inr false)
  else
  Kii (s0,in1,a0,(wr (a1 + 1)))
  else
  some (.inl ())
 partial_fixpoint
def Kij (p : K00 × (List Bool) × Int × Int) (fl : (Unit) ⊕ (Bool)) : Prop :=
 match p with
 | (s0,in1,a0,a1) => ∀ c : Ctx,c.nt = 85 → WpL Tryz.prog c (cl (cl (cr (cl (cl (cr (cl (cl (cr (cl (cr (cr K6j)))))))))))) (Kig c s0 in1 a0 fl) (mkS [(1,sB in1),(2,.ra 1 0),(5,I a0),(6,I a1)] [(1,K1v s0)])
theorem Kik : ∀ p r,Kii p = some r → Kij p r := by
 refine Kii.partial_correctness Kij ?_
 rintro spec_l1View_l0_f spec_l1View_l0_ih ⟨s0,in1,a0,a1⟩ r h
 intro c hc
 refine WpL.step (sN (K9o hc 4 [] [(25,.bool (decide (a1 < s0.fSize)))] (ic h (fun a2 h => ?_) fun a2 h => ?_)))
 ·refine sk (sN (bk 3 (sN ?_)))
  obtain ⟨a3,a4,h⟩ := Qdt h
  refine wi [25] [(84,.bool a3)] ?_ ?_
  ·replace h := a4
   obtain ⟨a5,a6,a7,a8,a9,b1,h⟩ := bq3 h
   rcases is h with ⟨b2,h⟩ | ⟨b2,h⟩
   ·rcases is h with ⟨b3,h⟩ | ⟨b3,h⟩
    ·obtain ⟨b4,b5,b6,b7,b8,b9,h⟩ := bq3 h
     rcases is h with ⟨c0,h⟩ | ⟨c0,h⟩
     ·obtain ⟨c1,c2,h⟩ := Qdt h
      rcases is h with ⟨c3,h⟩ | ⟨c3,h⟩
      ·obtain ⟨c4,c5,h⟩ := Qdt h
       rcases is h with ⟨c6,h⟩ | ⟨c6,h⟩
       ·obtain ⟨c7,c8,h⟩ := Qdt h
        rcases is h with ⟨c9,h⟩ | ⟨c9,h⟩
        ·obtain ⟨d0,d1,h⟩ := Qdt h
         obtain rfl := os h
         exact rj hc Kih (nN 4 ([oc (I a5),eB a7,oN,oN,oN,eB a9,oN,oN]++n_ 4 ([oT]++nN 6 ([oc (I b4),eB b6,oN,oN,oN,eB b8]++nN 4 ([eB c1,oN,oT,oN,oF,oN,oN,oN,eB c4]++nN 5 [oc (.bool c7),oT,oN,oN,oN,eB d0,oN,oN,oT,oF]))))) (cq (Kbq _ _ a6) K3z (ab (xB a8) (xB b1) (ar 4 (neF b2) (ai b2 (ar 5 (nF b3) (cq (Kbt _ _ b5) K41 (ab (nF b3) (xB b7) (ar 4 (nF b3) (ai (xB b9) (ar 2 (nF b3) (ar 3 c0 (ad (xB c2) c0 (nF b3) c0 (ar 2 (nF b3) (ar 3 (nF c3) (ai (xB c5) (ar 2 (nF c3) (ar 4 c6 (cq (Kbw _ _ c8) K43 (ac (nF c3) c6 (nF c3) (ar 3 c9 (ai (xB d1) (ar 2 c9 (ac (nF c3) c9 (nF c3) tv)))))))))))))))))))))))
        obtain rfl := os h
        exact rj hc Kih (nN 4 ([oc (I a5),eB a7,oN,oN,oN,eB a9,oN,oN]++n_ 4 ([oT]++nN 6 ([oc (I b4),eB b6,oN,oN,oN,eB b8]++nN 4 ([eB c1,oN,oT,oN,oF,oN,oN,oN,eB c4]++nN 5 ([oc (.bool c7),oT,oN]++n_ 5 [oF,oF])))))) (cq (Kbq _ _ a6) K3z (ab (xB a8) (xB b1) (ar 4 (neF b2) (ai b2 (ar 5 (nF b3) (cq (Kbt _ _ b5) K41 (ab (nF b3) (xB b7) (ar 4 (nF b3) (ai (xB b9) (ar 2 (nF b3) (ar 3 c0 (ad (xB c2) c0 (nF b3) c0 (ar 2 (nF b3) (ar 3 (nF c3) (ai (xB c5) (ar 2 (nF c3) (ar 4 c6 (cq (Kbw _ _ c8) K43 (ac (nF c3) c6 (nF c3) (ar 5 (neT c9) (ac (nF c3) c9 (nF c3) tv)))))))))))))))))))))
       obtain rfl := os h
       exact rj hc Kih (nN 4 ([oc (I a5),eB a7,oN,oN,oN,eB a9,oN,oN]++n_ 4 ([oT]++nN 6 ([oc (I b4),eB b6,oN,oN,oN,eB b8]++nN 4 ([eB c1,oN,oT,oN,oF,oN,oN,oN,eB c4,oN,oN]++n_ 4 ([oF,oN]++n_ 5 [oF,oF])))))) (cq (Kbq _ _ a6) K3z (ab (xB a8) (xB b1) (ar 4 (neF b2) (ai b2 (ar 5 (nF b3) (cq (Kbt _ _ b5) K41 (ab (nF b3) (xB b7) (ar 4 (nF b3) (ai (xB b9) (ar 2 (nF b3) (ar 3 c0 (ad (xB c2) c0 (nF b3) c0 (ar 2 (nF b3) (ar 3 (nF c3) (ai (xB c5) (ar 2 (nF c3) (ar 4 (neT c6) (ac (nF c3) c6 (nF c3) (ar 5 (neT fF) (ac (nF c3) fF (nF c3) tv))))))))))))))))))))
      obtain rfl := os h
      exact rj hc Kih (nN 4 ([oc (I a5),eB a7,oN,oN,oN,eB a9,oN,oN]++n_ 4 ([oT]++nN 6 ([oc (I b4),eB b6,oN,oN,oN,eB b8]++nN 4 ([eB c1,oN,oT,oN,oF,oN]++n_ 17 [oT]))))) (cq (Kbq _ _ a6) K3z (ab (xB a8) (xB b1) (ar 4 (neF b2) (ai b2 (ar 5 (nF b3) (cq (Kbt _ _ b5) K41 (ab (nF b3) (xB b7) (ar 4 (nF b3) (ai (xB b9) (ar 2 (nF b3) (ar 3 c0 (ad (xB c2) c0 (nF b3) c0 (ar 2 (nF b3) (ar 8 (neF (nT c3)) (ai (nT c3) tv)))))))))))))))
     rcases is h with ⟨c3,h⟩ | ⟨c3,h⟩
     ·obtain ⟨c4,c5,h⟩ := Qdt h
      rcases is h with ⟨c6,h⟩ | ⟨c6,h⟩
      ·obtain ⟨c7,c8,h⟩ := Qdt h
       rcases is h with ⟨c9,h⟩ | ⟨c9,h⟩
       ·obtain ⟨d0,d1,h⟩ := Qdt h
        obtain rfl := os h
        exact rj hc Kih (nN 4 ([oc (I a5),eB a7,oN,oN,oN,eB a9,oN,oN]++n_ 4 ([oT]++nN 6 ([oc (I b4),eB b6,oN,oN,oN,eB b8,oN,oN]++n_ 4 ([oF,oN,oF,oN,oN,oN,eB c4]++nN 5 [oc (.bool c7),oT,oN,oN,oN,eB d0,oN,oN,oT,oF]))))) (cq (Kbq _ _ a6) K3z (ab (xB a8) (xB b1) (ar 4 (neF b2) (ai b2 (ar 5 (nF b3) (cq (Kbt _ _ b5) K41 (ab (nF b3) (xB b7) (ar 4 (nF b3) (ai (xB b9) (ar 2 (nF b3) (ar 4 (neT c0) (ab (nF b3) c0 (ar 2 (nF b3) (ar 3 (nF c3) (ai (xB c5) (ar 2 (nF c3) (ar 4 c6 (cq (Kbw _ _ c8) K43 (ac (nF c3) c6 (nF c3) (ar 3 c9 (ai (xB d1) (ar 2 c9 (ac (nF c3) c9 (nF c3) tv)))))))))))))))))))))))
       obtain rfl := os h
       exact rj hc Kih (nN 4 ([oc (I a5),eB a7,oN,oN,oN,eB a9,oN,oN]++n_ 4 ([oT]++nN 6 ([oc (I b4),eB b6,oN,oN,oN,eB b8,oN,oN]++n_ 4 ([oF,oN,oF,oN,oN,oN,eB c4]++nN 5 ([oc (.bool c7),oT,oN]++n_ 5 [oF,oF])))))) (cq (Kbq _ _ a6) K3z (ab (xB a8) (xB b1) (ar 4 (neF b2) (ai b2 (ar 5 (nF b3) (cq (Kbt _ _ b5) K41 (ab (nF b3) (xB b7) (ar 4 (nF b3) (ai (xB b9) (ar 2 (nF b3) (ar 4 (neT c0) (ab (nF b3) c0 (ar 2 (nF b3) (ar 3 (nF c3) (ai (xB c5) (ar 2 (nF c3) (ar 4 c6 (cq (Kbw _ _ c8) K43 (ac (nF c3) c6 (nF c3) (ar 5 (neT c9) (ac (nF c3) c9 (nF c3) tv)))))))))))))))))))))
      obtain rfl := os h
      exact rj hc Kih (nN 4 ([oc (I a5),eB a7,oN,oN,oN,eB a9,oN,oN]++n_ 4 ([oT]++nN 6 ([oc (I b4),eB b6,oN,oN,oN,eB b8,oN,oN]++n_ 4 ([oF,oN,oF,oN,oN,oN,eB c4,oN,oN]++n_ 4 ([oF,oN]++n_ 5 [oF,oF])))))) (cq (Kbq _ _ a6) K3z (ab (xB a8) (xB b1) (ar 4 (neF b2) (ai b2 (ar 5 (nF b3) (cq (Kbt _ _ b5) K41 (ab (nF b3) (xB b7) (ar 4 (nF b3) (ai (xB b9) (ar 2 (nF b3) (ar 4 (neT c0) (ab (nF b3) c0 (ar 2 (nF b3) (ar 3 (nF c3) (ai (xB c5) (ar 2 (nF c3) (ar 4 (neT c6) (ac (nF c3) c6 (nF c3) (ar 5 (neT fF) (ac (nF c3) fF (nF c3) tv))))))))))))))))))))
     obtain rfl := os h
     exact rj hc Kih (nN 4 ([oc (I a5),eB a7,oN,oN,oN,eB a9,oN,oN]++n_ 4 ([oT]++nN 6 ([oc (I b4),eB b6,oN,oN,oN,eB b8,oN,oN]++n_ 4 ([oF,oN,oF,oN]++n_ 17 [oT]))))) (cq (Kbq _ _ a6) K3z (ab (xB a8) (xB b1) (ar 4 (neF b2) (ai b2 (ar 5 (nF b3) (cq (Kbt _ _ b5) K41 (ab (nF b3) (xB b7) (ar 4 (nF b3) (ai (xB b9) (ar 2 (nF b3) (ar 4 (neT c0) (ab (nF b3) c0 (ar 2 (nF b3) (ar 8 (neF (nT c3)) (ai (nT c3) tv)))))))))))))))
    obtain rfl := os h
    exact rj hc Kih (nN 4 ([oc (I a5),eB a7,oN,oN,oN,eB a9,oN,oN]++n_ 4 ([oT,oN,oN]++n_ 18 ([oT,oN]++n_ 17 [oT])))) (cq (Kbq _ _ a6) K3z (ab (xB a8) (xB b1) (ar 4 (neF b2) (ai b2 (ar 14 (neF (nT b3)) (ai (nT b3) (ar 8 nf (ai tt tv))))))))
   obtain ⟨d2,d3,h⟩ := Qdt h
   rcases is h with ⟨b3,h⟩ | ⟨b3,h⟩
   ·obtain ⟨b4,b5,b6,b7,b8,b9,h⟩ := bq3 h
    rcases is h with ⟨c0,h⟩ | ⟨c0,h⟩
    ·obtain ⟨c1,c2,h⟩ := Qdt h
     rcases is h with ⟨c3,h⟩ | ⟨c3,h⟩
     ·obtain ⟨c4,c5,h⟩ := Qdt h
      rcases is h with ⟨c6,h⟩ | ⟨c6,h⟩
      ·obtain ⟨c7,c8,h⟩ := Qdt h
       rcases is h with ⟨c9,h⟩ | ⟨c9,h⟩
       ·obtain ⟨d0,d1,h⟩ := Qdt h
        obtain rfl := os h
        exact rj hc Kih (nN 4 ([oc (I a5),eB a7,oN,oN,oN,eB a9]++nN 4 ([eB d2,oN,oF]++nN 6 ([oc (I b4),eB b6,oN,oN,oN,eB b8]++nN 4 ([eB c1,oN,oT,oN,oF,oN,oN,oN,eB c4]++nN 5 [oc (.bool c7),oT,oN,oN,oN,eB d0,oN,oN,oT,oF]))))) (cq (Kbq _ _ a6) K3z (ab (xB a8) (xB b1) (ar 3 b2 (ai (xB d3) (ar 2 b2 (ar 5 (nF b3) (cq (Kbt _ _ b5) K41 (ab (nF b3) (xB b7) (ar 4 (nF b3) (ai (xB b9) (ar 2 (nF b3) (ar 3 c0 (ad (xB c2) c0 (nF b3) c0 (ar 2 (nF b3) (ar 3 (nF c3) (ai (xB c5) (ar 2 (nF c3) (ar 4 c6 (cq (Kbw _ _ c8) K43 (ac (nF c3) c6 (nF c3) (ar 3 c9 (ai (xB d1) (ar 2 c9 (ac (nF c3) c9 (nF c3) tv))))))))))))))))))))))))
       obtain rfl := os h
       exact rj hc Kih (nN 4 ([oc (I a5),eB a7,oN,oN,oN,eB a9]++nN 4 ([eB d2,oN,oF]++nN 6 ([oc (I b4),eB b6,oN,oN,oN,eB b8]++nN 4 ([eB c1,oN,oT,oN,oF,oN,oN,oN,eB c4]++nN 5 ([oc (.bool c7),oT,oN]++n_ 5 [oF,oF])))))) (cq (Kbq _ _ a6) K3z (ab (xB a8) (xB b1) (ar 3 b2 (ai (xB d3) (ar 2 b2 (ar 5 (nF b3) (cq (Kbt _ _ b5) K41 (ab (nF b3) (xB b7) (ar 4 (nF b3) (ai (xB b9) (ar 2 (nF b3) (ar 3 c0 (ad (xB c2) c0 (nF b3) c0 (ar 2 (nF b3) (ar 3 (nF c3) (ai (xB c5) (ar 2 (nF c3) (ar 4 c6 (cq (Kbw _ _ c8) K43 (ac (nF c3) c6 (nF c3) (ar 5 (neT c9) (ac (nF c3) c9 (nF c3) tv))))))))))))))))))))))
      obtain rfl := os h
      exact rj hc Kih (nN 4 ([oc (I a5),eB a7,oN,oN,oN,eB a9]++nN 4 ([eB d2,oN,oF]++nN 6 ([oc (I b4),eB b6,oN,oN,oN,eB b8]++nN 4 ([eB c1,oN,oT,oN,oF,oN,oN,oN,eB c4,oN,oN]++n_ 4 ([oF,oN]++n_ 5 [oF,oF])))))) (cq (Kbq _ _ a6) K3z (ab (xB a8) (xB b1) (ar 3 b2 (ai (xB d3) (ar 2 b2 (ar 5 (nF b3) (cq (Kbt _ _ b5) K41 (ab (nF b3) (xB b7) (ar 4 (nF b3) (ai (xB b9) (ar 2 (nF b3) (ar 3 c0 (ad (xB c2) c0 (nF b3) c0 (ar 2 (nF b3) (ar 3 (nF c3) (ai (xB c5) (ar 2 (nF c3) (ar 4 (neT c6) (ac (nF c3) c6 (nF c3) (ar 5 (neT fF) (ac (nF c3) fF (nF c3) tv)))))))))))))))))))))
     obtain rfl := os h
     exact rj hc Kih (nN 4 ([oc (I a5),eB a7,oN,oN,oN,eB a9]++nN 4 ([eB d2,oN,oF]++nN 6 ([oc (I b4),eB b6,oN,oN,oN,eB b8]++nN 4 ([eB c1,oN,oT,oN,oF,oN]++n_ 17 [oT]))))) (cq (Kbq _ _ a6) K3z (ab (xB a8) (xB b1) (ar 3 b2 (ai (xB d3) (ar 2 b2 (ar 5 (nF b3) (cq (Kbt _ _ b5) K41 (ab (nF b3) (xB b7) (ar 4 (nF b3) (ai (xB b9) (ar 2 (nF b3) (ar 3 c0 (ad (xB c2) c0 (nF b3) c0 (ar 2 (nF b3) (ar 8 (neF (nT c3)) (ai (nT c3) tv))))))))))))))))
    rcases is h with ⟨c3,h⟩ | ⟨c3,h⟩
    ·obtain ⟨c4,c5,h⟩ := Qdt h
     rcases is h with ⟨c6,h⟩ | ⟨c6,h⟩
     ·obtain ⟨c7,c8,h⟩ := Qdt h
      rcases is h with ⟨c9,h⟩ | ⟨c9,h⟩
      ·obtain ⟨d0,d1,h⟩ := Qdt h
       obtain rfl := os h
       exact rj hc Kih (nN 4 ([oc (I a5),eB a7,oN,oN,oN,eB a9]++nN 4 ([eB d2,oN,oF]++nN 6 ([oc (I b4),eB b6,oN,oN,oN,eB b8,oN,oN]++n_ 4 ([oF,oN,oF,oN,oN,oN,eB c4]++nN 5 [oc (.bool c7),oT,oN,oN,oN,eB d0,oN,oN,oT,oF]))))) (cq (Kbq _ _ a6) K3z (ab (xB a8) (xB b1) (ar 3 b2 (ai (xB d3) (ar 2 b2 (ar 5 (nF b3) (cq (Kbt _ _ b5) K41 (ab (nF b3) (xB b7) (ar 4 (nF b3) (ai (xB b9) (ar 2 (nF b3) (ar 4 (neT c0) (ab (nF b3) c0 (ar 2 (nF b3) (ar 3 (nF c3) (ai (xB c5) (ar 2 (nF c3) (ar 4 c6 (cq (Kbw _ _ c8) K43 (ac (nF c3) c6 (nF c3) (ar 3 c9 (ai (xB d1) (ar 2 c9 (ac (nF c3) c9 (nF c3) tv))))))))))))))))))))))))
      obtain rfl := os h
      exact rj hc Kih (nN 4 ([oc (I a5),eB a7,oN,oN,oN,eB a9]++nN 4 ([eB d2,oN,oF]++nN 6 ([oc (I b4),eB b6,oN,oN,oN,eB b8,oN,oN]++n_ 4 ([oF,oN,oF,oN,oN,oN,eB c4]++nN 5 ([oc (.bool c7),oT,oN]++n_ 5 [oF,oF])))))) (cq (Kbq _ _ a6) K3z (ab (xB a8) (xB b1) (ar 3 b2 (ai (xB d3) (ar 2 b2 (ar 5 (nF b3) (cq (Kbt _ _ b5) K41 (ab (nF b3) (xB b7) (ar 4 (nF b3) (ai (xB b9) (ar 2 (nF b3) (ar 4 (neT c0) (ab (nF b3) c0 (ar 2 (nF b3) (ar 3 (nF c3) (ai (xB c5) (ar 2 (nF c3) (ar 4 c6 (cq (Kbw _ _ c8) K43 (ac (nF c3) c6 (nF c3) (ar 5 (neT c9) (ac (nF c3) c9 (nF c3) tv))))))))))))))))))))))
     obtain rfl := os h
     exact rj hc Kih (nN 4 ([oc (I a5),eB a7,oN,oN,oN,eB a9]++nN 4 ([eB d2,oN,oF]++nN 6 ([oc (I b4),eB b6,oN,oN,oN,eB b8,oN,oN]++n_ 4 ([oF,oN,oF,oN,oN,oN,eB c4,oN,oN]++n_ 4 ([oF,oN]++n_ 5 [oF,oF])))))) (cq (Kbq _ _ a6) K3z (ab (xB a8) (xB b1) (ar 3 b2 (ai (xB d3) (ar 2 b2 (ar 5 (nF b3) (cq (Kbt _ _ b5) K41 (ab (nF b3) (xB b7) (ar 4 (nF b3) (ai (xB b9) (ar 2 (nF b3) (ar 4 (neT c0) (ab (nF b3) c0 (ar 2 (nF b3) (ar 3 (nF c3) (ai (xB c5) (ar 2 (nF c3) (ar 4 (neT c6) (ac (nF c3) c6 (nF c3) (ar 5 (neT fF) (ac (nF c3) fF (nF c3) tv)))))))))))))))))))))
    obtain rfl := os h
    exact rj hc Kih (nN 4 ([oc (I a5),eB a7,oN,oN,oN,eB a9]++nN 4 ([eB d2,oN,oF]++nN 6 ([oc (I b4),eB b6,oN,oN,oN,eB b8,oN,oN]++n_ 4 ([oF,oN,oF,oN]++n_ 17 [oT]))))) (cq (Kbq _ _ a6) K3z (ab (xB a8) (xB b1) (ar 3 b2 (ai (xB d3) (ar 2 b2 (ar 5 (nF b3) (cq (Kbt _ _ b5) K41 (ab (nF b3) (xB b7) (ar 4 (nF b3) (ai (xB b9) (ar 2 (nF b3) (ar 4 (neT c0) (ab (nF b3) c0 (ar 2 (nF b3) (ar 8 (neF (nT c3)) (ai (nT c3) tv))))))))))))))))
   obtain rfl := os h
   exact rj hc Kih (nN 4 ([oc (I a5),eB a7,oN,oN,oN,eB a9]++nN 4 ([eB d2,oN,oF,oN,oN]++n_ 18 ([oT,oN]++n_ 17 [oT])))) (cq (Kbq _ _ a6) K3z (ab (xB a8) (xB b1) (ar 3 b2 (ai (xB d3) (ar 2 b2 (ar 14 (neF (nT b3)) (ai (nT b3) (ar 8 nf (ai tt tv)))))))))
  clear a4
  refine ic h (fun d4 h => ?_) fun d4 h => ?_
  ·obtain rfl := os h
   exact rs0 hc 1 [(4,.bool false)] [] (rt (re [true]))
  exact sk (ri0 hc 3 (Qdb (spec_l1View_l0_ih _ _ h c hc)))
 obtain rfl := os h
 exact xt 2 (Qd5 (Qdc (iv [])))
end Go.Am
