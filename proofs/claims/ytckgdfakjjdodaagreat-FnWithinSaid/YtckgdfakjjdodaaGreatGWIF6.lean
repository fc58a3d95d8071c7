/- Walks, printed. -/
import Derived.Test.YtckgdfakjjdodaaGreatGWIF3
set_option linter.unusedVariables false
set_option linter.unusedSimpArgs false
set_option maxRecDepth 100000
namespace Go.Am
open Go Go.Proofs
def Kh0 : Option (List (List Nat)) := rx [[0],[1],[0],[0],[0],[0],[2,5],[0],[0,7],[9],[10],[11],[12]]
def Kh1 : Option (List (List Nat)) := rx [[0],[1],[2],[3],[3],[3],[3],[3,4,5,6],[3],[9],[10],[11]]
def Kh2 : Option (List (List Nat)) := rx [[0],[0],[0],[0,2],[4],[5]]
def Kh3 : Option (List (List Nat)) := rx [[0],[0],[0],[0],[0],[0,2,3,4],[0],[0],[0],[0,2,3,4,5,6,7,8],[0,1,2,3,4,5,6,7,8,9],[11],[12]]
def Kh4 : Option (List (List Nat)) := rx [[0],[0],[0],[0],[0],[0,2,3,4],[6],[7]]
mutual
def Kh5 (p : K02 × K00 × LL × (List Int) × Int) : Option (K01 × K02) :=
 match p with
 | (c0,s1,ctx2,ty3,deep4) =>
  (Ka2 (c0,5)) >>= fun (a0,a1) =>
  ((
   if (decide (a0 > 1)) = true then
   (Ka2 (a1,(ctx2.length : Int))) >>= fun (a2,a3) =>
   (Kgx (c0,s1,ctx2,ty3,deep4,a2,a3,0)) >>= fun fl => match fl with
   | .inl () =>
    some (.inl (a3.fb,a3.fi,a3.fh))
   | .inr r =>
    some (.inr r)
   else
   some (.inl (a1.fb,a1.fi,a1.fh))) : Option (((List Int) × Int × Int) ⊕ ((K01 × K02)))) >>= fun fl => match fl with
  | .inl (a4,a5,a6) =>
   ((
   if (decide (deep4 > 0)) = true then
    (Ka5 ((K02.mk a4 a5 a6),3)) >>= fun (a7,a8) =>
    some ((a8.fb,a8.fi,a8.fh,a7))
   else
    some ((a4,a5,a6,false))
   ) : Option ((List Int) × Int × Int × Bool)) >>= fun (a9,b1,b2,b3) =>
   if b3 = true then
   (Kh8 ((K02.mk a9 b1 b2),s1,ctx2,ty3,(wr (deep4 - 1)))) >>= fun (b4,b5) =>
   some (b4,b5)
   else
   (idx ty3 0) >>= fun b6 =>
   ((
    if (b6 == 0) = true then
    if (decide (deep4 > 0)) = true then
    (Ka5 ((K02.mk a9 b1 b2),2)) >>= fun (b7,b8) =>
    some ((b8.fb,b8.fi,b8.fh,b7))
    else
    some ((a9,b1,b2,false))
    else
    some ((a9,b1,b2,false))
   ) : Option ((List Int) × Int × Int × Bool)) >>= fun (b9,c1,c2,c3) =>
   if c3 = true then
    (Kh5 ((K02.mk b9 c1 c2),s1,ctx2,ty3,(wr (deep4 - 1)))) >>= fun (c4,c5) =>
    (Kh5 (c5,s1,ctx2,ty3,(wr (deep4 - 1)))) >>= fun (c6,c7) =>
    (Ke5 (2,0,[c4,c6])) >>= fun c8 =>
    some (c8,c7)
   else
    if (b6 == 0) = true then
    (Ka2 ((K02.mk b9 c1 c2),3)) >>= fun (c9,d0) =>
    (Ke5 (1,c9,[])) >>= fun d1 =>
    some (d1,d0)
    else
    if (b6 == 1) = true then
    (Ker (ty3,0)) >>= fun d2 =>
    (Kh5 ((K02.mk b9 c1 c2),s1,ctx2,d2,(wr (deep4 - 1)))) >>= fun (d3,d4) =>
    (Ker (ty3,1)) >>= fun d5 =>
    (Kh5 (d4,s1,ctx2,d5,(wr (deep4 - 1)))) >>= fun (d6,d7) =>
    (Ke5 (4,0,[d3,d6])) >>= fun d8 =>
    some (d8,d7)
    else
    ((
    if (b6 == 2) = true then
    (Ka5 ((K02.mk b9 c1 c2),2)) >>= fun (d9,e0) =>
    some ((e0.fb,e0.fi,e0.fh,d9))
    else
    some ((b9,c1,c2,false))
    ) : Option ((List Int) × Int × Int × Bool)) >>= fun (e1,e2,e3,e4) =>
    if e4 = true then
    (Ker (ty3,1)) >>= fun e5 =>
    (Ker (ty3,0)) >>= fun e6 =>
    (Kh5 ((K02.mk e1 e2 e3),s1,ctx2,e6,(wr (deep4 - 1)))) >>= fun (e7,e8) =>
    some ((K01.mk 6 0 e5 [e7]),e8)
    else
    if (b6 == 2) = true then
    (Ker (ty3,0)) >>= fun e9 =>
    (Ker (ty3,1)) >>= fun f0 =>
    (Kh5 ((K02.mk e1 e2 e3),s1,ctx2,f0,(wr (deep4 - 1)))) >>= fun (f1,f2) =>
    some ((K01.mk 7 0 e9 [f1]),f2)
    else
    (Keb b6) >>= fun f3 =>
    if f3 = true then
    (Keu b6) >>= fun f4 =>
    (Ker (ty3,0)) >>= fun f5 =>
    (Kh5 ((K02.mk e1 e2 e3),s1,ctx2,f5,(wr (deep4 - 1)))) >>= fun (f6,f7) =>
    (Ke5 (11,f4,[f6])) >>= fun f8 =>
    some (f8,f7)
    else
    (Kh6 ((K02.mk e1 e2 e3),s1,ctx2,ty3,deep4)) >>= fun (f9,g0) =>
    some (f9,g0)
  | .inr r =>
   some r
 partial_fixpoint
def Kh6 (p : K02 × K00 × LL × (List Int) × Int) : Option (K01 × K02) :=
 match p with
 | (c0,s1,ctx2,ty3,deep4) =>
  (Ker (ty3,0)) >>= fun a0 =>
  (Ker (ty3,1)) >>= fun a1 =>
  (idx ty3 0) >>= fun a2 =>
  (Keu a2) >>= fun a3 =>
  (Kex (ctx2,[a0])) >>= fun a4 =>
  (Kh5 (c0,s1,a4,a1,(wr (deep4 - 1)))) >>= fun (a5,a6) =>
  (Kh7 (s1,ctx2,deep4,a0,a1,a3,a4,a6.fb,a6.fi,a6.fh,a5.fOp,a5.fN,a5.fType,a5.fKids,0)) >>= fun (a7,a8,a9,b1,b2,b3,b4) =>
  some ((K01.mk 9 a3 a0 [(K01.mk a7 a8 a9 b1)]),(K02.mk b2 b3 b4))
 partial_fixpoint
def Kh7 (p : K00 × LL × Int × (List Int) × (List Int) × Int × LL × (List Int) × Int × Int × Int × Int × (List Int) × (List K01) × Int) : Option (Int × Int × (List Int) × (List K01) × (List Int) × Int × Int) :=
 match p with
 | (s1,ctx2,deep4,a0,a1,a2,a3,a4,a5,a6,a7,a8,a9,b1,b2) =>
  ((
  if (decide (b2 < 3)) = true then
  (Kg8 (s1,a3,(K01.mk a7 a8 a9 b1),0)) >>= fun b3 =>
  (Kbn (s1,b3,a2)) >>= fun b4 =>
  some ((!b4))
  else
  some (false)
  ) : Option (Bool)) >>= fun b5 =>
  if b5 = true then
  (Kh5 ((K02.mk a4 a5 a6),s1,a3,a1,(wr (deep4 - 1)))) >>= fun (b6,b7) =>
  ((
  if (b2 == 1) = true then
  (Ke2 (a0,a1)) >>= fun b8 =>
  some (b8)
  else
  some (false)
  ) : Option (Bool)) >>= fun b9 =>
  ((
  if b9 = true then
  (Ke5 (0,0,[])) >>= fun c0 =>
  some ((c0.fOp,c0.fN,c0.fType,c0.fKids))
  else
  some ((b6.fOp,b6.fN,b6.fType,b6.fKids))
  ) : Option (Int × Int × (List Int) × (List K01))) >>= fun (c1,c2,c3,c4) =>
  Kh7 (s1,ctx2,deep4,a0,a1,a2,a3,b7.fb,b7.fi,b7.fh,c1,c2,c3,c4,(wr (b2 + 1)))
  else
  some ((a7,a8,a9,b1,a4,a5,a6))
 partial_fixpoint
def Kh8 (p : K02 × K00 × LL × (List Int) × Int) : Option (K01 × K02) :=
 match p with
 | (c0,s1,ctx2,ty3,deep4) =>
  (Ka2 (c0,6)) >>= fun (a0,a1) =>
  if (a0 == 0) = true then
  (Kh5 (a1,s1,ctx2,[0],deep4)) >>= fun (a2,a3) =>
  (Kh5 (a3,s1,ctx2,ty3,deep4)) >>= fun (a4,a5) =>
  (Kh5 (a5,s1,ctx2,ty3,deep4)) >>= fun (a6,a7) =>
  (Ke5 (3,0,[a2,a4,a6])) >>= fun a8 =>
  some (a8,a7)
  else
  if (a0 == 1) = true then
  (Ka5 (a1,2)) >>= fun (a9,b1) =>
  (Kdo (b1,s1,1,a9)) >>= fun (b2,b3) =>
  (Kdo (b3,s1,1,true)) >>= fun (b4,b5) =>
  (Kex (ctx2,[b4,b2])) >>= fun b6 =>
  (Kh5 (b5,s1,b6,ty3,deep4)) >>= fun (b7,b8) =>
  (Kg8 (s1,b6,b7,0)) >>= fun b9 =>
  (Kg8 (s1,b6,b7,1)) >>= fun c1 =>
  (Kc1 (s1,b9,c1)) >>= fun c2 =>
  (Kc1 (s1,1,c2)) >>= fun c3 =>
  (Kgf (b8,s1,c3)) >>= fun (c4,c5) =>
  (Kdl (1,[b2,b4])) >>= fun c6 =>
  (Kh5 (c5,s1,ctx2,c6,deep4)) >>= fun (c7,c8) =>
  (Ke5 (5,c4,[c7,b7])) >>= fun c9 =>
  some (c9,c8)
  else
  if (a0 == 2) = true then
  (Kdo (a1,s1,1,true)) >>= fun (d0,d1) =>
  (Kdo (d1,s1,1,true)) >>= fun (d2,d3) =>
  (Kex (ctx2,[d0])) >>= fun d4 =>
  (Kex (ctx2,[d2])) >>= fun d5 =>
  (Kh5 (d3,s1,d4,ty3,deep4)) >>= fun (d6,d7) =>
  (Kh5 (d7,s1,d5,ty3,deep4)) >>= fun (d8,d9) =>
  (Kg8 (s1,d4,d6,0)) >>= fun e0 =>
  (Kg8 (s1,d5,d8,0)) >>= fun e1 =>
  (Kc1 (s1,e0,e1)) >>= fun e2 =>
  (Kc1 (s1,1,e2)) >>= fun e3 =>
  (Kgf (d9,s1,e3)) >>= fun (e4,e5) =>
  (Kdl (2,[d0,d2])) >>= fun e6 =>
  (Kh5 (e5,s1,ctx2,e6,deep4)) >>= fun (e7,e8) =>
  (Ke5 (8,e4,[e7,d6,d8])) >>= fun e9 =>
  some (e9,e8)
  else
  if (a0 == 3) = true then
  (Ka5 (a1,2)) >>= fun (f0,f1) =>
  (Kdo (f1,s1,1,f0)) >>= fun (f2,f3) =>
  (Kex (ctx2,[f2])) >>= fun f4 =>
  (Kh5 (f3,s1,f4,ty3,deep4)) >>= fun (f5,f6) =>
  (Kg8 (s1,f4,f5,0)) >>= fun f7 =>
  (Kgf (f6,s1,f7)) >>= fun (f8,f9) =>
  (Kdl ((wr (19 + f8)),[f2])) >>= fun g0 =>
  (Kh5 (f9,s1,ctx2,g0,deep4)) >>= fun (g1,g2) =>
  (Ke5 (12,1,[g1,f5])) >>= fun g3 =>
  some (g3,g2)
  else
  (Ka5 (a1,2)) >>= fun (g4,g5) =>
  (Kdo (g5,s1,2,g4)) >>= fun (g6,g7) =>
  (Kex (ctx2,[g6])) >>= fun g8 =>
  (Kh5 (g7,s1,g8,ty3,deep4)) >>= fun (g9,i0) =>
  (Kg8 (s1,g8,g9,0)) >>= fun i1 =>
  (Kgf (i0,s1,i1)) >>= fun (i2,i3) =>
  (Ka5 (i3,4)) >>= fun (i4,i5) =>
  ((
   if i4 = true then
   (Kdl ((wr (3 + i2)),[g6,ty3])) >>= fun i6 =>
   if (decide ((i6.length : Int) < 12)) = true then
   (Ke5 (0,0,[])) >>= fun i7 =>
   (Kh5 (i5,s1,ctx2,g6,(wr (deep4 - 1)))) >>= fun (i8,i9) =>
   (Kgm (i8,1,0)) >>= fun j0 =>
   (Ke5 (10,0,[i7,j0])) >>= fun j8 =>
   (Ke5 (10,0,[(K01.mk 9 1 i6 [j8]),(K01.mk 9 i2 g6 [g9])])) >>= fun j9 =>
   some (.inr (j9,i9))
   else
   some (.inl ())
   else
   some (.inl ())) : Option ((Unit) ⊕ ((K01 × K02)))) >>= fun fl => match fl with
  | .inl () =>
   (Kh5 (i5,s1,ctx2,g6,(wr (deep4 - 1)))) >>= fun (k0,k1) =>
   (Ke5 (10,0,[(K01.mk 9 i2 g6 [g9]),k0])) >>= fun k2 =>
   some (k2,k1)
  | .inr r =>
   some r
 partial_fixpoint
end
def Kh9 (p : K02 × K00 × LL × (List Int) × Int) (r : K01 × K02) : Prop :=
 match p with
 | (c0,s1,ctx2,ty3,deep4) => Q77 Tryz.prog 231 [K23 c0,K1w s1,.osl (List.map K14 ctx2),sI ty3,I deep4] (K1z r.1) [K23 r.2,.undef,.osl (List.map K14 ctx2),.undef,.undef]
def Kha (p : K02 × K00 × LL × (List Int) × Int) (r : K01 × K02) : Prop :=
 match p with
 | (c0,s1,ctx2,ty3,deep4) => Q77 Tryz.prog 252 [K23 c0,K1w s1,.osl (List.map K14 ctx2),sI ty3,I deep4] (K1z r.1) [K23 r.2,.undef,.osl (List.map K14 ctx2),.undef,.undef]
def Khb (p : K00 × LL × Int × (List Int) × (List Int) × Int × LL × (List Int) × Int × Int × Int × Int × (List Int) × (List K01) × Int) (fl : Int × Int × (List Int) × (List K01) × (List Int) × Int × Int) : Prop :=
 match p with
 | (s1,ctx2,deep4,a0,a1,a2,a3,a4,a5,a6,a7,a8,a9,b1,b2) => ∀ c : Ctx,c.nt = 70 → WpL Tryz.prog c (cl (cl (cr (cl (cr (cr (cr (cr (cr (cr K5i)))))))))) (Kgw c ctx2 a0 a2 fl) (mkS [(0,.ra 1000 0),(4,I deep4),(6,.ra 1 0),(10,.ra 2 0),(11,sI a0),(12,sI a1),(13,I a2),(14,.rs 8),(15,.ra 9 0),(16,I b2)] [(1,K1v s1),(2,zT),(8,rM K14 a3),(9,.box [I a7,I a8,sI a9,sM K0h b1]),(1000,.box [sM U8 a4,I a5,I a6]),(3000,rM K14 ctx2)])
def Khc (p : K02 × K00 × LL × (List Int) × Int) (r : K01 × K02) : Prop :=
 match p with
 | (c0,s1,ctx2,ty3,deep4) => Q77 Tryz.prog 251 [K23 c0,K1w s1,.osl (List.map K14 ctx2),sI ty3,I deep4] (K1z r.1) [K23 r.2,.undef,.osl (List.map K14 ctx2),.undef,.undef]
theorem Khd : (∀ p r,Kh5 p = some r → Kh9 p r) ∧ (∀ p r,Kh6 p = some r → Kha p r) ∧ (∀ p r,Kh7 p = some r → Khb p r) ∧ (∀ p r,Kh8 p = some r → Khc p r) := by
 refine Kh5.mutual_partial_correctness Kh9 Kha Khb Khc ?_ ?_ ?_ ?_
 ·rintro spec_dOf_f spec_dFun_f spec_dAround_f spec_dOf_ih spec_dFun_ih spec_dAround_ih ⟨c0,s1,ctx2,ty3,deep4⟩ r h
  refine Q77.bodyO K3d (fn := Tryz.f231) (code := K52) (by kernel_rfl) (by kernel_rfl) (by kernel_rfl) (nt := 167) (by kernel_rfl) (by kernel_rfl) (T := [(0,.ra 1000 0),(1,K1w s1),(2,.rs 3000),(3,sI ty3),(4,I deep4)]) (O := [(1000,K21 c0),(3000,rM K14 ctx2)]) (by kernel_rfl) (by kernel_rfl) (fun c hc => ?_)
  refine rs hc none [nW 1,nW 2] [(0,.ra 1000 0),(2,.rs 3000),(3,sI ty3),(4,I deep4),(6,.ra 1 0),(10,.ra 2 0)] [(1,K1v s1),(2,zT),(1000,K21 c0),(3000,rM K14 ctx2)] tv (sN ?_)
  obtain ⟨⟨a0,a1⟩,a2,h⟩ := Qe5 h
  refine rs hc none [oN,some (.call (I a0) [K23 a1,.undef] 1),oN] [(0,.ra 1000 0),(2,.rs 3000),(3,sI ty3),(4,I deep4),(6,.ra 1 0),(10,.ra 2 0),(17,.bool (decide (a0 > 1)))] [(1,K1v s1),(2,zT),(1000,K21 a1),(3000,rM K14 ctx2)] (ab (Ka4 _ _ a2) K3m tv) ?_
  obtain ⟨fl,a3,h⟩ := Qe5 h
  refine flw (Kgu c c0 s1 ctx2 ty3 deep4 fl) ?_ (fun hF => ?_)
  ·replace h := a3
   refine ic h (fun a4 h => ?_) fun a4 h => ?_
   ·obtain ⟨⟨a5,a6⟩,a7,h⟩ := Qe5 h
    refine rsd hc none [oN,oN,nQ ⟨[(20,I (ctx2.length : Int))],[],[]⟩,some (.call (I a5) [K23 a6,.undef] 1),oN] [17] [(11,I a5)] [(1,K1v s1),(2,zT),(1000,K21 a6),(3000,rM K14 ctx2)] (ac (Qeb (d := 20) K14 ctx2) (Ka4 _ _ a7) K3m tv) (K9e hc 1 [(0,.ra 1000 0),(2,.rs 3000),(3,sI ty3),(4,I deep4),(6,.ra 1 0),(10,.ra 2 0),(11,I a5),(12,I 0)] (bk 0 ?_))
    obtain ⟨fl,a8,h⟩ := Qe5 h
    have hL := Kgz _ _ a8 c hc
    refine lp ?_
    rcases fl with ⟨⟩ | r
    ·refine wl hL ?_
     obtain rfl := os h
     exact Qdj im
    refine WpL.mono hL ?_
    rintro _ _ ⟨rfl,hfin⟩
    obtain rfl := os h
    exact ⟨rfl,hfin⟩
   obtain rfl := os h
   exact sk (iv [])
  rcases fl with ⟨a9,b1,b2⟩ | r
  ·refine wf hF (sN (sN ?_))
   obtain ⟨⟨b3,b4,b5,b6⟩,b7,h⟩ := Qe5 h
   refine Wp.into (x := .normal) (mkS [(0,.ra 1000 0),(2,.rs 3000),(3,sI ty3),(4,I deep4),(6,.ra 1 0),(10,.ra 2 0),(47,.bool b6)] [(1,K1v s1),(2,zT),(1000,.box [sM U8 b3,I b4,I b5]),(3000,rM K14 ctx2)]) ?_ ?_
   ·replace h := b7
    rcases is h with ⟨b8,h⟩ | ⟨b8,h⟩
    ·obtain ⟨⟨b9,c1⟩,c2,h⟩ := Qe5 h
     obtain ⟨rfl,hq0⟩ := Prod.mk.inj (os h)
     obtain ⟨rfl,hq1⟩ := Prod.mk.inj (hq0)
     obtain ⟨rfl,rfl⟩ := Prod.mk.inj (hq1)
     exact rj hc none (nN 4 [some (.call (.bool b9) [K23 c1,.undef] 1),oT]) (ar 2 b8 (ac (Ka7 _ _ c2) K3n b8 tv))
    obtain ⟨rfl,hq0⟩ := Prod.mk.inj (os h)
    obtain ⟨rfl,hq1⟩ := Prod.mk.inj (hq0)
    obtain ⟨rfl,rfl⟩ := Prod.mk.inj (hq1)
    exact rj hc none [oN,oN,oN,o_,o_,oF] (ar 2 (neT b8) (ai b8 tv))
   clear b7
   refine ic h (fun c3 h => ?_) fun c3 h => ?_
   ·obtain ⟨⟨c4,c5⟩,c6,h⟩ := Qe5 h
    obtain rfl := os h
    exact rs hc none (nN 6 [some (.call (K1z c4) [K23 c5,.undef,.osl (List.map K14 ctx2),.undef,.undef] 1),oN]) [(10,.ra 2 0)] [(2,K1y c4),(1000,K21 c5),(3000,rM K14 ctx2)] (ab (spec_dAround_ih _ _ c6) K51 tv) (rt (rr [false]))
   refine sk ?_
   obtain ⟨c7,c8,h⟩ := Qe5 h
   refine K9g hc none [oN,eL (I c7),oN,oN] [47] [(14,I c7)] (ai (ix c8) tv) (sN (bk 2 (sN ?_)))
   obtain ⟨⟨c9,d0,d1,d2⟩,d3,h⟩ := Qe5 h
   refine Wp.into (x := .normal) (mkS [(0,.ra 1000 0),(2,.rs 3000),(3,sI ty3),(4,I deep4),(6,.ra 1 0),(10,.ra 2 0),(14,I c7),(58,.bool d2)] [(1,K1v s1),(2,zT),(1000,.box [sM U8 c9,I d0,I d1]),(3000,rM K14 ctx2)]) ?_ ?_
   ·replace h := d3
    rcases is h with ⟨d4,h⟩ | ⟨d4,h⟩
    ·rcases is h with ⟨d5,h⟩ | ⟨d5,h⟩
     ·obtain ⟨⟨d6,d7⟩,d8,h⟩ := Qe5 h
      obtain ⟨rfl,hq0⟩ := Prod.mk.inj (os h)
      obtain ⟨rfl,hq1⟩ := Prod.mk.inj (hq0)
      obtain ⟨rfl,rfl⟩ := Prod.mk.inj (hq1)
      exact rj hc none (nN 5 [oT,oN,oN,some (.call (.bool d6) [K23 d7,.undef] 1),oT,oN]) (ar 3 d4 (ar 2 d5 (ac (Ka7 _ _ d8) K3n d5 tv)))
     obtain ⟨rfl,hq0⟩ := Prod.mk.inj (os h)
     obtain ⟨rfl,hq1⟩ := Prod.mk.inj (hq0)
     obtain ⟨rfl,rfl⟩ := Prod.mk.inj (hq1)
     exact rj hc none (nN 5 [oT,oN,o_,o_,oF,oN]) (ar 3 d4 (ar 2 (neT d5) (ai d5 tv)))
    obtain ⟨rfl,hq0⟩ := Prod.mk.inj (os h)
    obtain ⟨rfl,hq1⟩ := Prod.mk.inj (hq0)
    obtain ⟨rfl,rfl⟩ := Prod.mk.inj (hq1)
    exact rj hc none [oN,oN,oN,o_,o_,oF,oN,o_,o_,oF,oN] (ar 2 (neT d4) (ai d4 (ar 2 (neT fF) (ai fF tv))))
   clear d3
   refine ic h (fun d9 h => ?_) fun d9 h => ?_
   ·obtain ⟨⟨e0,e1⟩,e2,h⟩ := Qe5 h
    obtain ⟨⟨e3,e4⟩,e5,h⟩ := Qe5 h
    obtain ⟨e6,e7,h⟩ := Qe5 h
    obtain rfl := os h
    exact rs hc (rx [[0],[0],[0],[0],[0],[0,4],[6],[0],[0],[0],[0],[0],[0,11],[13],[14],[15],[16]]) (nN 6 ([some (.call (K1z e0) [K23 e1,.undef,.osl (List.map K14 ctx2),.undef,.undef] 1)]++nN 6 [some (.call (K1z e3) [K23 e4,.undef,.osl (List.map K14 ctx2),.undef,.undef] 1),some (.eqv (.mk 3 false) ⟨[(83,.rs 3)],[(3,some (.arr (List.map K0h [e0,e3])))],[3]⟩),some (.call (K1z e6) [.tup []] 1),oN])) [(10,.ra 2 0)] [(2,K1y e6),(1000,K21 e4),(3000,rM K14 ctx2)] (ad (spec_dOf_ih _ _ e2) K53 (spec_dOf_ih _ _ e5) K53 (ac (congrArg (fun z => (⟨[(83,.rs 3)],[(3,some (.arr z))],[3]⟩ : Wr)) ((Qfc (K0o e0) (Qfc (K0o e3) Qfb)) : [K1z e0,K1z e3] = List.map K0h [e0,e3])) (Q77.args (A1 := [I 2,I 0,.sl (Q02 (List.map K0h [e0,e3]))]) (A2 := [I 2,I 0,.sl (List.map K0h [e0,e3])]) (by simp only [List.map_nil,K1d]) (Ke7 _ _ e7)) K4z tv)) (rt (rr [false]))
   refine K9h hc 3 [58] [(85,.bool (c7 == 0))] (ic h (fun e8 h => ?_) fun e8 h => ?_)
   ·obtain ⟨⟨e9,f0⟩,f1,h⟩ := Qe5 h
    obtain ⟨f2,f3,h⟩ := Qe5 h
    obtain rfl := os h
    exact rs hc none [oN,some (.call (I e9) [K23 f0,.undef] 1),oc (K1z f2),oN] [(10,.ra 2 0)] [(2,K1y f2),(1000,K21 f0),(3000,rM K14 ctx2)] (ab (Ka4 _ _ f1) K3m (cq (Q77.args (A1 := [I 1,I e9,.sl []]) (A2 := [I 1,I e9,.sl (List.map K0h [])]) (by simp only [List.map_nil]) (Ke7 _ _ f3)) K4z tv)) (rt (rr [false]))
   refine K9h hc 3 [85] [(91,.bool (c7 == 1))] (ic h (fun f4 h => ?_) fun f4 h => ?_)
   ·obtain ⟨f5,f6,⟨f7,f8⟩,f9,h⟩ := bq2 h
    obtain ⟨g0,g1,⟨g2,g3⟩,g4,h⟩ := bq2 h
    obtain ⟨g5,g6,h⟩ := Qe5 h
    obtain rfl := os h
    exact rs hc (rx [[0],[0],[0],[0],[0,3],[0],[0,5],[7],[0],[0],[0],[0],[8,11],[0],[0,13],[15],[16],[17],[18]]) (nN 4 ([oc (sI f5),oN,oN,some (.call (K1z f7) [K23 f8,.undef,.osl (List.map K14 ctx2),.undef,.undef] 1)]++nN 4 [oc (sI g0),oN,oN,some (.call (K1z g2) [K23 g3,.undef,.osl (List.map K14 ctx2),.undef,.undef] 1),some (.eqv (.mk 6 false) ⟨[(110,.rs 6)],[(6,some (.arr (List.map K0h [f7,g2])))],[6]⟩),some (.call (K1z g5) [.tup []] 1),oN])) [(10,.ra 2 0)] [(2,K1y g5),(1000,K21 g3),(3000,rM K14 ctx2)] (cq (Q77.res (r2 := sI f5) (by simp only [share,Q02,Qex]) (Q77.shr (Ket _ _ f6))) K5f (ab (spec_dOf_ih _ _ f9) K53 (cq (Q77.res (r2 := sI g0) (by simp only [share,Q02,Qex]) (Q77.shr (Ket _ _ g1))) K5f (ad (spec_dOf_ih _ _ g4) K53 (congrArg (fun z => (⟨[(110,.rs 6)],[(6,some (.arr z))],[6]⟩ : Wr)) ((Qfc (K0o f7) (Qfc (K0o g2) Qfb)) : [K1z f7,K1z g2] = List.map K0h [f7,g2])) (Q77.args (A1 := [I 4,I 0,.sl (Q02 (List.map K0h [f7,g2]))]) (A2 := [I 4,I 0,.sl (List.map K0h [f7,g2])]) (by simp only [List.map_nil,K1d]) (Ke7 _ _ g6)) (ai K4z tv))))) (rt (rr [false]))
   refine sN ?_
   obtain ⟨⟨g7,g8,g9,i0⟩,i1,h⟩ := Qe5 h
   refine Wp.into (x := .normal) (mkS [(0,.ra 1000 0),(2,.rs 3000),(3,sI ty3),(4,I deep4),(6,.ra 1 0),(10,.ra 2 0),(14,I c7),(112,.bool i0)] [(1,K1v s1),(2,zT),(1000,.box [sM U8 g7,I g8,I g9]),(3000,rM K14 ctx2)]) ?_ ?_
   ·replace h := i1
    rcases is h with ⟨i2,h⟩ | ⟨i2,h⟩
    ·obtain ⟨⟨i3,i4⟩,i5,h⟩ := Qe5 h
     obtain ⟨rfl,hq0⟩ := Prod.mk.inj (os h)
     obtain ⟨rfl,hq1⟩ := Prod.mk.inj (hq0)
     obtain ⟨rfl,rfl⟩ := Prod.mk.inj (hq1)
     exact rj hc none (nN 4 [some (.call (.bool i3) [K23 i4,.undef] 1),oT,oN]) (ar 2 i2 (ac (Ka7 _ _ i5) K3n i2 tv))
    obtain ⟨rfl,hq0⟩ := Prod.mk.inj (os h)
    obtain ⟨rfl,hq1⟩ := Prod.mk.inj (hq0)
    obtain ⟨rfl,rfl⟩ := Prod.mk.inj (hq1)
    exact rj hc none [oN,oN,oN,o_,o_,oF,oN] (ar 2 (neT i2) (ai i2 tv))
   clear i1
   refine ic h (fun i6 h => ?_) fun i6 h => ?_
   ·obtain ⟨i7,i8,i9,j0,⟨j8,j9⟩,k0,h⟩ := bq3 h
    refine rs hc Kh0 ([oN,some (.call (oI i7) [] 9)]++nN 4 [oc (sI i9),oN,oN,some (.call (K1z j8) [K23 j9,.undef,.osl (List.map K14 ctx2),.undef,.undef] 1),some (.eqv (.mk 10 false) ⟨[(129,.rs 10)],[(10,some (.arr (List.map K0h [j8])))],[10]⟩),oN,oN]) [(10,.ra 2 0)] [(2,.box [I 6,I 0,.rs 9,.rs 10]),(9,rI i7),(10,.arr (List.map K0h [j8])),(1000,K21 j9),(3000,rM K14 ctx2)] (cq (Ket _ _ i8) K5f (cq (Q77.res (r2 := sI i9) (by simp only [share,Q02,Qex]) (Q77.shr (Ket _ _ j0))) K5f (ac (spec_dOf_ih _ _ k0) K53 (congrArg (fun z => (⟨[(129,.rs 10)],[(10,some (.arr z))],[10]⟩ : Wr)) ((Qfc (K0o j8) Qfb) : [K1z j8] = List.map K0h [j8])) tv))) (vz 9 (Qex i7) [(10,.ra 2 0)] [(2,.box [I 6,I 0,sI i7,.rs 10]),(10,.arr (List.map K0h [j8])),(1000,K21 j9),(3000,rM K14 ctx2)] (vz 10 (K1d [j8]) [(10,.ra 2 0)] [(2,.box [I 6,I 0,sI i7,.sl (List.map K0h [j8])]),(1000,K21 j9),(3000,rM K14 ctx2)] ?_))
    obtain rfl := os h
    exact rt (rr [false])
   refine K9h hc 3 [112] [(131,.bool (c7 == 2))] (ic h (fun k1 h => ?_) fun k1 h => ?_)
   ·obtain ⟨k2,k3,k4,k5,⟨k6,k7⟩,k8,h⟩ := bq3 h
    refine rs hc Kh0 ([oN,some (.call (oI k2) [] 13)]++nN 4 [oc (sI k4),oN,oN,some (.call (K1z k6) [K23 k7,.undef,.osl (List.map K14 ctx2),.undef,.undef] 1),some (.eqv (.mk 14 false) ⟨[(144,.rs 14)],[(14,some (.arr (List.map K0h [k6])))],[14]⟩),oN,oN]) [(10,.ra 2 0)] [(2,.box [I 7,I 0,.rs 13,.rs 14]),(13,rI k2),(14,.arr (List.map K0h [k6])),(1000,K21 k7),(3000,rM K14 ctx2)] (cq (Ket _ _ k3) K5f (cq (Q77.res (r2 := sI k4) (by simp only [share,Q02,Qex]) (Q77.shr (Ket _ _ k5))) K5f (ac (spec_dOf_ih _ _ k8) K53 (congrArg (fun z => (⟨[(144,.rs 14)],[(14,some (.arr z))],[14]⟩ : Wr)) ((Qfc (K0o k6) Qfb) : [K1z k6] = List.map K0h [k6])) tv))) (vz 13 (Qex k2) [(10,.ra 2 0)] [(2,.box [I 7,I 0,sI k2,.rs 14]),(14,.arr (List.map K0h [k6])),(1000,K21 k7),(3000,rM K14 ctx2)] (vz 14 (K1d [k6]) [(10,.ra 2 0)] [(2,.box [I 7,I 0,sI k2,.sl (List.map K0h [k6])]),(1000,K21 k7),(3000,rM K14 ctx2)] ?_))
    obtain rfl := os h
    exact rt (rr [false])
   obtain ⟨k9,l0,h⟩ := Qe5 h
   refine K9g hc none [oN,oc (.bool k9),oN] [131] [(146,.bool k9)] (cq (Ked _ _ l0) K57 tv) (ic h (fun l1 h => ?_) fun l1 h => ?_)
   ·obtain ⟨l2,l3,l4,l5,⟨l6,l7⟩,l8,h⟩ := bq3 h
    obtain ⟨l9,m0,h⟩ := Qe5 h
    obtain rfl := os h
    exact rs hc Kh0 ([oN,oc (I l2)]++nN 4 [oc (sI l4),oN,oN,some (.call (K1z l6) [K23 l7,.undef,.osl (List.map K14 ctx2),.undef,.undef] 1),some (.eqv (.mk 16 false) ⟨[(159,.rs 16)],[(16,some (.arr (List.map K0h [l6])))],[16]⟩),some (.call (K1z l9) [.tup []] 1),oN]) [(10,.ra 2 0)] [(2,K1y l9),(1000,K21 l7),(3000,rM K14 ctx2)] (cq (Kew _ _ l3) K5h (cq (Q77.res (r2 := sI l4) (by simp only [share,Q02,Qex]) (Q77.shr (Ket _ _ l5))) K5f (ad (spec_dOf_ih _ _ l8) K53 (congrArg (fun z => (⟨[(159,.rs 16)],[(16,some (.arr z))],[16]⟩ : Wr)) ((Qfc (K0o l6) Qfb) : [K1z l6] = List.map K0h [l6])) (Q77.args (A1 := [I 11,I l2,.sl (Q02 (List.map K0h [l6]))]) (A2 := [I 11,I l2,.sl (List.map K0h [l6])]) (by simp only [List.map_nil,K1d]) (Ke7 _ _ m0)) (ai K4z tv)))) (rt (rr [false]))
   refine sk ?_
   obtain ⟨⟨m1,m2⟩,m3,h⟩ := Qe5 h
   obtain rfl := os h
   exact rs hc none (nN 5 [some (.call (K1z m1) [K23 m2,.undef,.osl (List.map K14 ctx2),.undef,.undef] 1),oN]) [(10,.ra 2 0)] [(2,K1y m1),(1000,K21 m2),(3000,rM K14 ctx2)] (ab (spec_dFun_ih _ _ m3) K5j tv) (rt (rr [false]))
  refine Wp.mono hF ?_
  rintro _ _ ⟨rfl,hfin⟩
  obtain rfl := os h
  exact ⟨.inl rfl,hfin⟩
 ·rintro spec_dOf_f spec_dFun_l0_f spec_dOf_ih spec_dFun_l0_ih ⟨c0,s1,ctx2,ty3,deep4⟩ r h
  refine Q77.bodyO K3d (fn := Tryz.f252) (code := K5i) (by kernel_rfl) (by kernel_rfl) (by kernel_rfl) (nt := 70) (by kernel_rfl) (by kernel_rfl) (T := [(0,.ra 1000 0),(1,K1w s1),(2,.rs 3000),(3,sI ty3),(4,I deep4)]) (O := [(1000,K21 c0),(3000,rM K14 ctx2)]) (by kernel_rfl) (by kernel_rfl) (fun c hc => ?_)
  refine rs hc none [nW 1,nW 2] [(0,.ra 1000 0),(2,.rs 3000),(3,sI ty3),(4,I deep4),(6,.ra 1 0),(10,.ra 2 0)] [(1,K1v s1),(2,zT),(1000,K21 c0),(3000,rM K14 ctx2)] tv ?_
  obtain ⟨a0,a2,h⟩ := Qe5 h
  refine rsd hc none [oN,some (.call (oI a0) [] 3),oN] [] [(11,.rs 3)] [(1,K1v s1),(2,zT),(3,rI a0),(1000,K21 c0),(3000,rM K14 ctx2)] (cq (Ket _ _ a2) K5f tv) ?_
  obtain ⟨m4,m5,h⟩ := Qe5 h
  refine rsd hc none [oN,some (.call (oI m4) [] 4),oN] [] [(12,.rs 4)] [(1,K1v s1),(2,zT),(3,rI a0),(4,rI m4),(1000,K21 c0),(3000,rM K14 ctx2)] (cq (Ket _ _ m5) K5f tv) ?_
  obtain ⟨m6,m7,m8,m9,h⟩ := bq2 h
  refine rss hc none [oN,eL (I m6),oN,oc (I m8),oN] [(0,.ra 1000 0),(2,.rs 3000),(4,I deep4),(6,.ra 1 0),(10,.ra 2 0),(11,.rs 3),(12,.rs 4),(13,I m8)] (ai (ix m7) (cq (Kew _ _ m9) K5h tv)) (sN (vz 3 (Qex a0) [(0,.ra 1000 0),(2,.rs 3000),(4,I deep4),(6,.ra 1 0),(10,.ra 2 0),(11,sI a0),(12,.rs 4),(13,I m8)] [(1,K1v s1),(2,zT),(4,rI m4),(1000,K21 c0),(3000,rM K14 ctx2)] ?_))
  obtain ⟨n0,n1,h⟩ := Qe5 h
  refine rg hc none [oN,oN,some (.call .undef [] 7),some (.call (.osl (List.map K14 n0)) [.osl (List.map K14 ctx2),.undef] 8),oN] [(0,.ra 1000 0),(4,I deep4),(6,.ra 1 0),(10,.ra 2 0),(11,sI a0),(12,.rs 4),(13,I m8),(14,.rs 8)] [(1,K1v s1),(2,zT),(4,rI m4),(8,rM K14 n0),(1000,K21 c0),(3000,rM K14 ctx2)] (ab (Kf1 _ _ n1) K5l tv) (sN (vz 4 (Qex m4) [(0,.ra 1000 0),(4,I deep4),(6,.ra 1 0),(10,.ra 2 0),(11,sI a0),(12,sI m4),(13,I m8),(14,.rs 8)] [(1,K1v s1),(2,zT),(8,rM K14 n0),(1000,K21 c0),(3000,rM K14 ctx2)] ?_))
  obtain ⟨⟨n2,n3⟩,n4,h⟩ := Qe5 h
  refine rgd hc none (nN 6 [some (.call (K1z n2) [K23 n3,.undef,.osl (List.map K14 n0),.undef,.undef] 1),nW 9,oN]) [] [(15,.ra 9 0)] [(1,K1v s1),(2,zT),(8,rM K14 n0),(9,K1y n2),(1000,K21 n3),(3000,rM K14 ctx2)] (ab (spec_dOf_ih _ _ n4) K53 tv) (sN (K9e hc 1 [(0,.ra 1000 0),(4,I deep4),(6,.ra 1 0),(10,.ra 2 0),(11,sI a0),(12,sI m4),(13,I m8),(14,.rs 8),(15,.ra 9 0),(16,I 0)] (bk 0 ?_)))
  obtain ⟨⟨n5,n6,n7,n8,n9,o0,o1⟩,o2,h⟩ := Qe5 h
  have hL := spec_dFun_l0_ih _ _ o2 c hc
  refine lp (wl hL (Qdj (rs hc none [oN,oN,oN,some (.eqv (.mk 10 false) ⟨[(68,.rs 10)],[(10,some (.arr (List.map K0h [(K01.mk n5 n6 n7 n8)])))],[10]⟩),oN,oN] [(10,.ra 2 0)] [(2,.box [I 9,I m8,sI a0,.rs 10]),(10,.arr (List.map K0h [(K01.mk n5 n6 n7 n8)])),(1000,.box [sM U8 n9,I o0,I o1]),(3000,rM K14 ctx2)] (ai (congrArg (fun z => (⟨[(68,.rs 10)],[(10,some (.arr z))],[10]⟩ : Wr)) ((Qfc (K0o (K01.mk n5 n6 n7 n8)) Qfb) : [AV.agg [I n5,I n6,sI n7,sM K0h n8]] = List.map K0h [(K01.mk n5 n6 n7 n8)])) tv) (vz 10 (K1d [(K01.mk n5 n6 n7 n8)]) [(10,.ra 2 0)] [(2,.box [I 9,I m8,sI a0,.sl (List.map K0h [(K01.mk n5 n6 n7 n8)])]),(1000,.box [sM U8 n9,I o0,I o1]),(3000,rM K14 ctx2)] ?_))))
  obtain rfl := os h
  exact rt (rr [false])
 ·rintro spec_dOf_f spec_dFun_l0_f spec_dOf_ih spec_dFun_l0_ih ⟨s1,ctx2,deep4,a0,m4,m8,n0,b2,o3,b3,o4,o5,o6,o7,o8⟩ r h
  intro c hc
  refine WpL.step (sN (sN ?_))
  obtain ⟨o9,p0,h⟩ := Qe5 h
  refine wi [] [(47,.bool o9)] ?_ ?_
  ·replace h := p0
   rcases is h with ⟨p1,h⟩ | ⟨p1,h⟩
   ·obtain ⟨p2,p3,p4,p5,h⟩ := bq2 h
    obtain rfl := os h
    exact rj hc Kh1 (nN 7 [oc (I p2),oN,oc (.bool p4),oN,oT]) (ar 5 p1 (ac (Q77.args (A1 := [K1w s1,.sl (Q02 (List.map K14 n0)),.agg [I o4,I o5,sI o6,sM K0h o7],I 0]) (A2 := [K1w s1,sL n0,.agg [I o4,I o5,sI o6,sM K0h o7],I 0]) (by simp only [List.map_nil,K18]) (Kga _ _ p3)) K65 (Or.inr rfl : ([8] : List Nat) = [] ∨ noSh (I p2) = true) (ar 2 p1 (cq (Kbp _ _ p5) K46 (ar 2 p1 tv)))))
   obtain rfl := os h
   exact rj hc Kh1 ([oN,oN,oN]++n_ 8 [oF]) (ar 8 (neT p1) (ai p1 tv))
  clear p0
  refine ic h (fun p6 h => ?_) fun p6 h => ?_
  ·refine sk (sN (bk 1 ?_))
   obtain ⟨⟨p7,p8⟩,p9,h⟩ := Qe5 h
   refine rsd hc none (nN 6 [some (.call (K1z p7) [K23 p8,.undef,.osl (List.map K14 n0),.undef,.undef] 1),oN]) [47] [] [(1,K1v s1),(2,zT),(8,rM K14 n0),(9,K1y p7),(1000,K21 p8),(3000,rM K14 ctx2)] (ab (spec_dOf_ih _ _ p9) K53 tv) (sN ?_)
   obtain ⟨d2,d3,h⟩ := Qe5 h
   refine wi [] [(63,.bool d2)] ?_ ?_
   ·replace h := d3
    rcases is h with ⟨q0,h⟩ | ⟨q0,h⟩
    ·obtain ⟨q1,q2,h⟩ := Qe5 h
     obtain rfl := os h
     exact rj hc none (nN 5 [oc (.bool q1),oT]) (ar 3 q0 (cq (Ke4 _ _ q2) K4x (ai q0 tv)))
    obtain rfl := os h
    exact rj hc none [oN,oN,oN,o_,o_,o_,oF] (ar 3 (neT q0) (ai q0 tv))
   clear d3
   obtain ⟨⟨q3,q4,q5,q6⟩,q7,h⟩ := Qe5 h
   refine Wp.into (x := .normal) (mkS [(0,.ra 1000 0),(4,I deep4),(6,.ra 1 0),(10,.ra 2 0),(11,sI a0),(12,sI m4),(13,I m8),(14,.rs 8),(15,.ra 9 0),(16,I o8)] [(1,K1v s1),(2,zT),(8,rM K14 n0),(9,.box [I q3,I q4,sI q5,sM K0h q6]),(1000,K21 p8),(3000,rM K14 ctx2)]) ?_ ?_
   ·replace h := q7
    refine ic h (fun d9 h => ?_) fun d9 h => ?_
    ·obtain ⟨q8,q9,h⟩ := Qe5 h
     obtain ⟨rfl,hq0⟩ := Prod.mk.inj (os h)
     obtain ⟨rfl,hq1⟩ := Prod.mk.inj (hq0)
     obtain ⟨rfl,rfl⟩ := Prod.mk.inj (hq1)
     exact rj hc none [oc (K1z q8),oN] (cq (Q77.args (A1 := [I 0,I 0,.sl []]) (A2 := [I 0,I 0,.sl (List.map K0h [])]) (by simp only [List.map_nil]) (Ke7 _ _ q9)) K4z tv)
    refine sk ?_
    obtain ⟨rfl,hq0⟩ := Prod.mk.inj (os h)
    obtain ⟨rfl,hq1⟩ := Prod.mk.inj (hq0)
    obtain ⟨rfl,rfl⟩ := Prod.mk.inj (hq1)
    exact iv []
   clear q7
   exact ri0 hc 3 (Qdn (spec_dFun_l0_ih _ _ h c hc))
  refine xt 0 (Qdh (Qdo ?_))
  obtain ⟨rfl,hq0⟩ := Prod.mk.inj (os h)
  obtain ⟨rfl,hq1⟩ := Prod.mk.inj (hq0)
  obtain ⟨rfl,hq2⟩ := Prod.mk.inj (hq1)
  obtain ⟨rfl,hq3⟩ := Prod.mk.inj (hq2)
  obtain ⟨rfl,hq4⟩ := Prod.mk.inj (hq3)
  obtain ⟨rfl,rfl⟩ := Prod.mk.inj (hq4)
  exact iv []
 ·rintro spec_dOf_f spec_dOf_ih ⟨c0,s1,ctx2,ty3,deep4⟩ r h
  refine Q77.bodyO K3d (fn := Tryz.f251) (code := K50) (by kernel_rfl) (by kernel_rfl) (by kernel_rfl) (nt := 269) (by kernel_rfl) (by kernel_rfl) (T := [(0,.ra 1000 0),(1,K1w s1),(2,.rs 3000),(3,sI ty3),(4,I deep4)]) (O := [(1000,K21 c0),(3000,rM K14 ctx2)]) (by kernel_rfl) (by kernel_rfl) (fun c hc => ?_)
  refine rs hc none [nW 1,nW 2] [(0,.ra 1000 0),(2,.rs 3000),(3,sI ty3),(4,I deep4),(6,.ra 1 0),(10,.ra 2 0)] [(1,K1v s1),(2,zT),(1000,K21 c0),(3000,rM K14 ctx2)] tv (rsd hc none [mK 3,oN] [] [(11,.rs 3)] [(1,K1v s1),(2,zT),(3,.arr (List.map I [0])),(1000,K21 c0),(3000,rM K14 ctx2)] tv (sN ?_))
  obtain ⟨⟨m4,r0⟩,m5,h⟩ := Qe5 h
  refine rsd hc none [oN,some (.call (I m4) [K23 r0,.undef] 1)] [] [(37,I m4)] [(1,K1v s1),(2,zT),(3,.arr (List.map I [0])),(1000,K21 r0),(3000,rM K14 ctx2)] (ab (Ka4 _ _ m5) K3m tv) (bk 0 (K9e hc 2 [(0,.ra 1000 0),(2,.rs 3000),(3,sI ty3),(4,I deep4),(6,.ra 1 0),(10,.ra 2 0),(11,.rs 3),(37,I m4),(38,.bool (m4 == 0))] (ic h (fun a4 h => ?_) fun a4 h => ?_)))
  ·refine sN (vz 3 (Qex [0]) [(0,.ra 1000 0),(2,.rs 3000),(3,sI ty3),(4,I deep4),(6,.ra 1 0),(10,.ra 2 0),(11,.sl (List.map I [0])),(37,I m4),(38,.bool (m4 == 0))] [(1,K1v s1),(2,zT),(1000,K21 r0),(3000,rM K14 ctx2)] ?_)
   obtain ⟨⟨r1,r3⟩,r4,h⟩ := Qe5 h
   obtain ⟨⟨r5,r6⟩,r7,h⟩ := Qe5 h
   obtain ⟨⟨r8,r9⟩,s0,h⟩ := Qe5 h
   obtain ⟨s2,s3,h⟩ := Qe5 h
   obtain rfl := os h
   exact rg hc (rh [0,0,0,0,0,5,0,0,0,0,0,11,0,0,0,0,0,17,18,19,20]) (nN 5 ([some (.call (K1z r1) [K23 r3,.undef,.osl (List.map K14 ctx2),.undef,.undef] 1)]++nN 5 ([some (.call (K1z r5) [K23 r6,.undef,.osl (List.map K14 ctx2),.undef,.undef] 1)]++nN 5 [some (.call (K1z r8) [K23 r9,.undef,.osl (List.map K14 ctx2),.undef,.undef] 1),some (.eqv (.mk 4 false) ⟨[(58,.rs 4)],[(4,some (.arr (List.map K0h [r1,r5,r8])))],[4]⟩),some (.call (K1z s2) [.tup []] 1),oN]))) [(10,.ra 2 0)] [(2,K1y s2),(1000,K21 r9),(3000,rM K14 ctx2)] (ad (spec_dOf_ih _ _ r4) K53 (spec_dOf_ih _ _ r7) K53 (ad (spec_dOf_ih _ _ s0) K53 (congrArg (fun z => (⟨[(58,.rs 4)],[(4,some (.arr z))],[4]⟩ : Wr)) ((Qfc (K0o r1) (Qfc (K0o r5) (Qfc (K0o r8) Qfb))) : [K1z r1,K1z r5,K1z r8] = List.map K0h [r1,r5,r8])) (Q77.args (A1 := [I 3,I 0,.sl (Q02 (List.map K0h [r1,r5,r8]))]) (A2 := [I 3,I 0,.sl (List.map K0h [r1,r5,r8])]) (by simp only [List.map_nil,K1d]) (Ke7 _ _ s3)) (ai K4z tv))) (rt (rr [false]))
  refine K9f hc 2 [11,38] [(60,.bool (m4 == 1))] [(1,K1v s1),(2,zT),(1000,K21 r0),(3000,rM K14 ctx2)] (ic h (fun s4 h => ?_) fun s4 h => ?_)
  ·obtain ⟨⟨s5,s6⟩,s7,h⟩ := Qe5 h
   obtain ⟨⟨s8,s9⟩,t0,h⟩ := Qe5 h
   refine rsd hc Kh2 [oN,oN,oN,some (.call (.bool s5) [K23 s6,.undef] 1),some (.call (oI s8) [K23 s9,.undef,.undef,.undef] 5),oN] [60,37] [(12,.rs 5)] [(1,K1v s1),(2,zT),(5,rI s8),(1000,K21 s9),(3000,rM K14 ctx2)] (ad (Ka7 _ _ s7) K3n (Kdq _ _ t0) K4r tv) ?_
   obtain ⟨⟨t1,t2⟩,t3,h⟩ := Qe5 h
   refine rs hc none [oN,oN,some (.call (oI t1) [K23 t2,.undef,.undef,.undef] 6),oN] [(0,.ra 1000 0),(2,.rs 3000),(3,sI ty3),(4,I deep4),(6,.ra 1 0),(10,.ra 2 0),(12,.rs 5),(13,.rs 6)] [(1,K1v s1),(2,zT),(5,rI s8),(6,rI t1),(1000,K21 t2),(3000,rM K14 ctx2)] (ab (Kdq _ _ t3) K4r tv) (sN (vz 6 (Qex t1) [(0,.ra 1000 0),(2,.rs 3000),(3,sI ty3),(4,I deep4),(6,.ra 1 0),(10,.ra 2 0),(12,.rs 5),(13,sI t1)] [(1,K1v s1),(2,zT),(5,rI s8),(1000,K21 t2),(3000,rM K14 ctx2)] (vz 5 (Qex s8) [(0,.ra 1000 0),(2,.rs 3000),(3,sI ty3),(4,I deep4),(6,.ra 1 0),(10,.ra 2 0),(12,sI s8),(13,sI t1)] [(1,K1v s1),(2,zT),(1000,K21 t2),(3000,rM K14 ctx2)] ?_)))
   obtain ⟨t4,t5,h⟩ := Qe5 h
   refine rgd hc none [oN,oN,oN,some (.call .undef [] 10),some (.call (.osl (List.map K14 t4)) [.osl (List.map K14 ctx2),.undef] 11),oN] [] [(14,.rs 11)] [(1,K1v s1),(2,zT),(11,rM K14 t4),(1000,K21 t2),(3000,rM K14 ctx2)] (ab (Kf1 _ _ t5) K5l tv) ?_
   obtain ⟨⟨t6,t7⟩,t8,h⟩ := Qe5 h
   refine rsd hc none (nN 5 [some (.call (K1z t6) [K23 t7,.undef,.osl (List.map K14 t4),.undef,.undef] 1),nW 12,oN]) [3] [(15,.ra 12 0)] [(1,K1v s1),(2,zT),(11,rM K14 t4),(12,K1y t6),(1000,K21 t7),(3000,rM K14 ctx2)] (ab (spec_dOf_ih _ _ t8) K53 tv) ?_
   obtain ⟨q1,q2,t9,u0,u1,u2,u3,u4,h⟩ := bq4 h
   refine rsd hc Kh3 (nN 5 [oc (I q1),oN,oN,oN,oc (I t9),oc (I u1),oc (I u3),oN]) [14] [(16,I u3)] [(1,K1v s1),(2,zT),(12,K1y t6),(1000,K21 t7),(3000,rM K14 ctx2)] (ad (Q77.args (A1 := [K1w s1,.sl (Q02 (List.map K14 t4)),K1z t6,I 0]) (A2 := [K1w s1,sL t4,K1z t6,I 0]) (by simp only [List.map_nil,K18]) (Kga _ _ q2)) K65 (Or.inr rfl : ([11] : List Nat) = [] ∨ noSh (I q1) = true) (Q77.args (A1 := [K1w s1,.sl (Q02 (List.map K14 t4)),K1z t6,I 1]) (A2 := [K1w s1,sL t4,K1z t6,I 1]) (by simp only [List.map_nil,K18]) (Kga _ _ u0)) (ab K65 (Or.inr rfl : ([11] : List Nat) = [] ∨ noSh (I t9) = true) (cq (Kc3 _ _ u2) K4a (cq (Kc3 _ _ u4) K4a tv)))) ?_
   obtain ⟨⟨u5,u6⟩,u7,h⟩ := Qe5 h
   obtain ⟨u8,u9,⟨v0,v1⟩,v2,h⟩ := bq2 h
   obtain ⟨v3,v4,h⟩ := Qe5 h
   obtain rfl := os h
   exact rs hc (rx [[0],[0],[0],[3],[0],[0],[0],[0],[0],[0,7,8],[4,7,8,9],[0],[12],[0],[14],[15],[16]]) ([oN,oN,oN,some (.call (I u5) [K23 u6,.undef,.undef] 1)]++nN 5 [some (.mk 15 false),some (.call (sI u8) [.tup []] 1),oN,some (.call (K1z v0) [K23 v1,.undef,.osl (List.map K14 ctx2),.undef,.undef] 1),oN,some (.eqv (.mk 16 false) ⟨[(107,.rs 16)],[(16,some (.arr (List.map K0h [v0,t6])))],[16]⟩),some (.call (K1z v3) [.tup []] 1),oN]) [(10,.ra 2 0)] [(2,K1y v3),(1000,K21 v1),(3000,rM K14 ctx2)] (ad (Kgh _ _ u7) K67 (Q77.args (A1 := [I 1,.sl (Q02 (List.map K14 [s8,t1]))]) (A2 := [I 1,.sl (List.map K14 [s8,t1])]) (by simp only [List.map_nil,K18]) (Q77.res (r2 := sI u8) (by simp only [share,Q02,Qex]) (Q77.shr (Kdn _ _ u9)))) K4t (ad (spec_dOf_ih _ _ v2) K53 (congrArg (fun z => (⟨[(107,.rs 16)],[(16,some (.arr z))],[16]⟩ : Wr)) ((Qfc (K0o v0) (Qfc (K0o t6) Qfb)) : [K1z v0,K1z t6] = List.map K0h [v0,t6])) (Q77.args (A1 := [I 5,I u5,.sl (Q02 (List.map K0h [v0,t6]))]) (A2 := [I 5,I u5,.sl (List.map K0h [v0,t6])]) (by simp only [List.map_nil,K1d]) (Ke7 _ _ v4)) (ai K4z tv))) (rt (rr [false]))
  refine K9h hc 2 [60] [(109,.bool (m4 == 2))] (ic h (fun v5 h => ?_) fun v5 h => ?_)
  ·obtain ⟨⟨v6,v7⟩,v8,h⟩ := Qe5 h
   refine rsd hc none [oN,oN,some (.call (oI v6) [K23 v7,.undef,.undef,.undef] 17),oN] [109,37] [(17,.rs 17)] [(1,K1v s1),(2,zT),(17,rI v6),(1000,K21 v7),(3000,rM K14 ctx2)] (ab (Kdq _ _ v8) K4r tv) ?_
   obtain ⟨⟨v9,w0⟩,w1,h⟩ := Qe5 h
   refine rs hc none [oN,oN,some (.call (oI v9) [K23 w0,.undef,.undef,.undef] 18),oN] [(0,.ra 1000 0),(2,.rs 3000),(3,sI ty3),(4,I deep4),(6,.ra 1 0),(10,.ra 2 0),(17,.rs 17),(18,.rs 18)] [(1,K1v s1),(2,zT),(17,rI v6),(18,rI v9),(1000,K21 w0),(3000,rM K14 ctx2)] (ab (Kdq _ _ w1) K4r tv) (sN (vz 17 (Qex v6) [(0,.ra 1000 0),(2,.rs 3000),(3,sI ty3),(4,I deep4),(6,.ra 1 0),(10,.ra 2 0),(17,sI v6),(18,.rs 18)] [(1,K1v s1),(2,zT),(18,rI v9),(1000,K21 w0),(3000,rM K14 ctx2)] ?_))
   obtain ⟨w2,w3,h⟩ := Qe5 h
   refine rg hc none [oN,oN,some (.call .undef [] 21),some (.call (.osl (List.map K14 w2)) [.osl (List.map K14 ctx2),.undef] 22),oN] [(0,.ra 1000 0),(2,.rs 3000),(3,sI ty3),(4,I deep4),(6,.ra 1 0),(10,.ra 2 0),(17,sI v6),(18,.rs 18),(19,.rs 22)] [(1,K1v s1),(2,zT),(18,rI v9),(22,rM K14 w2),(1000,K21 w0),(3000,rM K14 ctx2)] (ab (Kf1 _ _ w3) K5l tv) (sN (vz 18 (Qex v9) [(0,.ra 1000 0),(2,.rs 3000),(3,sI ty3),(4,I deep4),(6,.ra 1 0),(10,.ra 2 0),(17,sI v6),(18,sI v9),(19,.rs 22)] [(1,K1v s1),(2,zT),(22,rM K14 w2),(1000,K21 w0),(3000,rM K14 ctx2)] ?_))
   obtain ⟨w4,w5,h⟩ := Qe5 h
   refine rgd hc none [oN,oN,some (.call .undef [] 25),some (.call (.osl (List.map K14 w4)) [.osl (List.map K14 ctx2),.undef] 26),oN] [] [(20,.rs 26)] [(1,K1v s1),(2,zT),(22,rM K14 w2),(26,rM K14 w4),(1000,K21 w0),(3000,rM K14 ctx2)] (ab (Kf1 _ _ w5) K5l tv) ?_
   obtain ⟨⟨w6,w7⟩,w8,h⟩ := Qe5 h
   refine rsd hc none (nN 5 [some (.call (K1z w6) [K23 w7,.undef,.osl (List.map K14 w2),.undef,.undef] 1),nW 27,oN]) [] [(21,.ra 27 0)] [(1,K1v s1),(2,zT),(22,rM K14 w2),(26,rM K14 w4),(27,K1y w6),(1000,K21 w7),(3000,rM K14 ctx2)] (ab (spec_dOf_ih _ _ w8) K53 tv) ?_
   obtain ⟨⟨w9,x0⟩,x1,h⟩ := Qe5 h
   refine rsd hc none (nN 5 [some (.call (K1z w9) [K23 x0,.undef,.osl (List.map K14 w4),.undef,.undef] 1),nW 28,oN]) [3] [(22,.ra 28 0)] [(1,K1v s1),(2,zT),(22,rM K14 w2),(26,rM K14 w4),(27,K1y w6),(28,K1y w9),(1000,K21 x0),(3000,rM K14 ctx2)] (ab (spec_dOf_ih _ _ x1) K53 tv) ?_
   obtain ⟨x2,x3,j8,k0,x4,x5,x6,x7,h⟩ := bq4 h
   refine rsd hc Kh3 (nN 5 [oc (I x2),oN,oN,oN,oc (I j8),oc (I x4),oc (I x6),oN]) [20,19] [(23,I x6)] [(1,K1v s1),(2,zT),(27,K1y w6),(28,K1y w9),(1000,K21 x0),(3000,rM K14 ctx2)] (ad (Q77.args (A1 := [K1w s1,.sl (Q02 (List.map K14 w2)),K1z w6,I 0]) (A2 := [K1w s1,sL w2,K1z w6,I 0]) (by simp only [List.map_nil,K18]) (Kga _ _ x3)) K65 (Or.inr rfl : ([22] : List Nat) = [] ∨ noSh (I x2) = true) (Q77.args (A1 := [K1w s1,.sl (Q02 (List.map K14 w4)),K1z w9,I 0]) (A2 := [K1w s1,sL w4,K1z w9,I 0]) (by simp only [List.map_nil,K18]) (Kga _ _ k0)) (ab K65 (Or.inr rfl : ([26] : List Nat) = [] ∨ noSh (I j8) = true) (cq (Kc3 _ _ x5) K4a (cq (Kc3 _ _ x7) K4a tv)))) ?_
   obtain ⟨⟨x8,x9⟩,y0,h⟩ := Qe5 h
   obtain ⟨y1,y2,⟨y3,y4⟩,y5,h⟩ := bq2 h
   obtain ⟨y6,y7,h⟩ := Qe5 h
   obtain rfl := os h
   exact rs hc (rx [[0],[0],[0],[3],[0],[0],[0],[0],[0],[0,7,8],[4,7,8,9],[0],[12],[0],[0],[15],[16],[17]]) ([oN,oN,oN,some (.call (I x8) [K23 x9,.undef,.undef] 1)]++nN 5 [some (.mk 31 false),some (.call (sI y1) [.tup []] 1),oN,some (.call (K1z y3) [K23 y4,.undef,.osl (List.map K14 ctx2),.undef,.undef] 1),oN,oN,some (.eqv (.mk 32 false) ⟨[(164,.rs 32)],[(32,some (.arr (List.map K0h [y3,w6,w9])))],[32]⟩),some (.call (K1z y6) [.tup []] 1),oN]) [(10,.ra 2 0)] [(2,K1y y6),(1000,K21 y4),(3000,rM K14 ctx2)] (ad (Kgh _ _ y0) K67 (Q77.args (A1 := [I 2,.sl (Q02 (List.map K14 [v6,v9]))]) (A2 := [I 2,.sl (List.map K14 [v6,v9])]) (by simp only [List.map_nil,K18]) (Q77.res (r2 := sI y1) (by simp only [share,Q02,Qex]) (Q77.shr (Kdn _ _ y2)))) K4t (ad (spec_dOf_ih _ _ y5) K53 (congrArg (fun z => (⟨[(164,.rs 32)],[(32,some (.arr z))],[32]⟩ : Wr)) ((Qfc (K0o y3) (Qfc (K0o w6) (Qfc (K0o w9) Qfb))) : [K1z y3,K1z w6,K1z w9] = List.map K0h [y3,w6,w9])) (Q77.args (A1 := [I 8,I x8,.sl (Q02 (List.map K0h [y3,w6,w9]))]) (A2 := [I 8,I x8,.sl (List.map K0h [y3,w6,w9])]) (by simp only [List.map_nil,K1d]) (Ke7 _ _ y7)) (ai K4z tv))) (rt (rr [false]))
  refine K9h hc 2 [109,37] [(166,.bool (m4 == 3))] (ic h (fun y8 h => ?_) fun y8 h => ?_)
  ·obtain ⟨⟨y9,z0⟩,z1,h⟩ := Qe5 h
   obtain ⟨⟨z2,z3⟩,z4,h⟩ := Qe5 h
   refine rs hc Kh2 [oN,oN,oN,some (.call (.bool y9) [K23 z0,.undef] 1),some (.call (oI z2) [K23 z3,.undef,.undef,.undef] 33),oN] [(0,.ra 1000 0),(2,.rs 3000),(3,sI ty3),(4,I deep4),(6,.ra 1 0),(10,.ra 2 0),(24,.rs 33)] [(1,K1v s1),(2,zT),(33,rI z2),(1000,K21 z3),(3000,rM K14 ctx2)] (ad (Ka7 _ _ z1) K3n (Kdq _ _ z4) K4r tv) (sN (vz 33 (Qex z2) [(0,.ra 1000 0),(2,.rs 3000),(3,sI ty3),(4,I deep4),(6,.ra 1 0),(10,.ra 2 0),(24,sI z2)] [(1,K1v s1),(2,zT),(1000,K21 z3),(3000,rM K14 ctx2)] ?_))
   obtain ⟨z5,z6,h⟩ := Qe5 h
   refine rgd hc none [oN,oN,some (.call .undef [] 36),some (.call (.osl (List.map K14 z5)) [.osl (List.map K14 ctx2),.undef] 37),oN] [] [(25,.rs 37)] [(1,K1v s1),(2,zT),(37,rM K14 z5),(1000,K21 z3),(3000,rM K14 ctx2)] (ab (Kf1 _ _ z6) K5l tv) ?_
   obtain ⟨⟨m1,m2⟩,m3,h⟩ := Qe5 h
   refine rsd hc none (nN 5 [some (.call (K1z m1) [K23 m2,.undef,.osl (List.map K14 z5),.undef,.undef] 1),nW 38,oN]) [3] [(26,.ra 38 0)] [(1,K1v s1),(2,zT),(37,rM K14 z5),(38,K1y m1),(1000,K21 m2),(3000,rM K14 ctx2)] (ab (spec_dOf_ih _ _ m3) K53 tv) ?_
   obtain ⟨z7,z8,⟨z9,h0⟩,h1,h⟩ := bq2 h
   refine rsd hc Kh4 (nN 5 [oc (I z7),some (.call (I z9) [K23 h0,.undef,.undef] 1),oN]) [25] [(27,I z9)] [(1,K1v s1),(2,zT),(38,K1y m1),(1000,K21 h0),(3000,rM K14 ctx2)] (ad (Q77.args (A1 := [K1w s1,.sl (Q02 (List.map K14 z5)),K1z m1,I 0]) (A2 := [K1w s1,sL z5,K1z m1,I 0]) (by simp only [List.map_nil,K18]) (Kga _ _ z8)) K65 (Or.inr rfl : ([37] : List Nat) = [] ∨ noSh (I z7) = true) (Kgh _ _ h1) (ai K67 tv)) ?_
   obtain ⟨h2,h3,⟨h4,h5⟩,h6,h⟩ := bq2 h
   obtain ⟨h7,h8,h⟩ := Qe5 h
   obtain rfl := os h
   exact rs hc (rx [[0],[0],[0],[0],[0,3],[0],[0,5],[0,3,4,5,6],[0],[9],[0],[11],[12],[13]]) (nN 6 [some (.mk 41 false),some (.call (sI h2) [.tup []] 1),oN,some (.call (K1z h4) [K23 h5,.undef,.osl (List.map K14 ctx2),.undef,.undef] 1),oN,some (.eqv (.mk 42 false) ⟨[(201,.rs 42)],[(42,some (.arr (List.map K0h [h4,m1])))],[42]⟩),some (.call (K1z h7) [.tup []] 1),oN]) [(10,.ra 2 0)] [(2,K1y h7),(1000,K21 h5),(3000,rM K14 ctx2)] (ad (Q77.args (A1 := [I (wr (19 + z9)),.sl (Q02 (List.map K14 [z2]))]) (A2 := [I (wr (19 + z9)),.sl (List.map K14 [z2])]) (by simp only [List.map_nil,K18]) (Q77.res (r2 := sI h2) (by simp only [share,Q02,Qex]) (Q77.shr (Kdn _ _ h3)))) K4t (spec_dOf_ih _ _ h6) K53 (ac (congrArg (fun z => (⟨[(201,.rs 42)],[(42,some (.arr z))],[42]⟩ : Wr)) ((Qfc (K0o h4) (Qfc (K0o m1) Qfb)) : [K1z h4,K1z m1] = List.map K0h [h4,m1])) (Q77.args (A1 := [I 12,I 1,.sl (Q02 (List.map K0h [h4,m1]))]) (A2 := [I 12,I 1,.sl (List.map K0h [h4,m1])]) (by simp only [List.map_nil,K1d]) (Ke7 _ _ h8)) K4z tv)) (rt (rr [false]))
  refine sk ?_
  obtain ⟨⟨h9,a00⟩,a01,h⟩ := Qe5 h
  obtain ⟨⟨a02,a03⟩,a04,h⟩ := Qe5 h
  refine rs hc Kh2 [oN,oN,oN,some (.call (.bool h9) [K23 a00,.undef] 1),some (.call (oI a02) [K23 a03,.undef,.undef,.undef] 43),oN] [(0,.ra 1000 0),(2,.rs 3000),(3,sI ty3),(4,I deep4),(6,.ra 1 0),(10,.ra 2 0),(28,.rs 43)] [(1,K1v s1),(2,zT),(43,rI a02),(1000,K21 a03),(3000,rM K14 ctx2)] (ad (Ka7 _ _ a01) K3n (Kdq _ _ a04) K4r tv) (sN (vz 43 (Qex a02) [(0,.ra 1000 0),(2,.rs 3000),(3,sI ty3),(4,I deep4),(6,.ra 1 0),(10,.ra 2 0),(28,sI a02)] [(1,K1v s1),(2,zT),(1000,K21 a03),(3000,rM K14 ctx2)] ?_))
  obtain ⟨a05,a06,h⟩ := Qe5 h
  refine rgd hc none [oN,oN,some (.call .undef [] 46),some (.call (.osl (List.map K14 a05)) [.osl (List.map K14 ctx2),.undef] 47),oN] [] [(29,.rs 47)] [(1,K1v s1),(2,zT),(47,rM K14 a05),(1000,K21 a03),(3000,rM K14 ctx2)] (ab (Kf1 _ _ a06) K5l tv) ?_
  obtain ⟨⟨a07,a08⟩,a09,h⟩ := Qe5 h
  refine rsd hc none (nN 5 [some (.call (K1z a07) [K23 a08,.undef,.osl (List.map K14 a05),.undef,.undef] 1),nW 48,oN]) [] [(30,.ra 48 0)] [(1,K1v s1),(2,zT),(47,rM K14 a05),(48,K1y a07),(1000,K21 a08),(3000,rM K14 ctx2)] (ab (spec_dOf_ih _ _ a09) K53 tv) ?_
  obtain ⟨a10,a11,⟨a12,a13⟩,a14,h⟩ := bq2 h
  refine rsd hc Kh4 (nN 5 [oc (I a10),some (.call (I a12) [K23 a13,.undef,.undef] 1),oN]) [29] [(31,I a12)] [(1,K1v s1),(2,zT),(48,K1y a07),(1000,K21 a13),(3000,rM K14 ctx2)] (ad (Q77.args (A1 := [K1w s1,.sl (Q02 (List.map K14 a05)),K1z a07,I 0]) (A2 := [K1w s1,sL a05,K1z a07,I 0]) (by simp only [List.map_nil,K18]) (Kga _ _ a11)) K65 (Or.inr rfl : ([47] : List Nat) = [] ∨ noSh (I a10) = true) (Kgh _ _ a14) (ai K67 tv)) (rsd hc none [oN,oN,oN,some (.eqv (.mk 49 false) ⟨[(228,.rs 49)],[(49,some (.arr (List.map K0h [a07])))],[49]⟩),oN,nW 50,oN] [30] [(32,.ra 50 0)] [(1,K1v s1),(2,zT),(49,.arr (List.map K0h [a07])),(50,.box [I 9,I a12,sI a02,.rs 49]),(1000,K21 a13),(3000,rM K14 ctx2)] (ai (congrArg (fun z => (⟨[(228,.rs 49)],[(49,some (.arr z))],[49]⟩ : Wr)) ((Qfc (K0o a07) Qfb) : [K1z a07] = List.map K0h [a07])) tv) (sN ?_))
  obtain ⟨⟨a15,a16⟩,a17,h⟩ := Qe5 h
  refine rs hc none [oN,some (.call (.bool a15) [K23 a16,.undef] 1)] [(0,.ra 1000 0),(2,.rs 3000),(3,sI ty3),(4,I deep4),(6,.ra 1 0),(10,.ra 2 0),(28,sI a02),(31,I a12),(32,.ra 50 0),(231,.bool a15)] [(1,K1v s1),(2,zT),(49,.arr (List.map K0h [a07])),(50,.box [I 9,I a12,sI a02,.rs 49]),(1000,K21 a16),(3000,rM K14 ctx2)] (ab (Ka7 _ _ a17) K3n tv) ?_
  obtain ⟨fl,a18,h⟩ := Qe5 h
  refine flw (Kgv c c0 s1 ctx2 ty3 deep4 a02 a07 a12 a16 fl) ?_ (fun hF => ?_)
  ·replace h := a18
   refine ic h (fun a19 h => ?_) fun a19 h => ?_
   ·obtain ⟨a20,a21,h⟩ := Qe5 h
    refine rsd hc none (nN 4 [some (.mk 51 false),some (.call (oI a20) [] 52),oN]) [3,31,231] [(33,.rs 52)] [(1,K1v s1),(2,zT),(49,.arr (List.map K0h [a07])),(50,.box [I 9,I a12,sI a02,.rs 49]),(52,rI a20),(1000,K21 a16),(3000,rM K14 ctx2)] (ac (Q77.args (A1 := [I (wr (3 + a12)),.sl (Q02 (List.map K14 [a02,ty3]))]) (A2 := [I (wr (3 + a12)),.sl (List.map K14 [a02,ty3])]) (by simp only [List.map_nil,K18]) (Kdn _ _ a21)) K4t (Or.inr (Qf5 Qf1 a20) : ([51] : List Nat) = [] ∨ noSh (oI a20) = true) tv) (K9g hc none [oN,nQ ⟨[(239,I (a20.length : Int))],[],[]⟩,oN] [] [(240,.bool (decide ((a20.length : Int) < 12)))] (ai (Qeb (d := 239) I a20) tv) (ic h (fun a22 h => ?_) fun a22 h => ?_))
    ·obtain ⟨a23,a24,⟨a25,a26⟩,a27,h⟩ := bq2 h
     obtain ⟨a28,a29,a30,a31,h⟩ := bq2 h
     refine rs hc (rx [[0],[0],[0],[0],[0],[0],[0,5],[7],[8],[9],[10],[0],[12]]) ([oc (K1z a23)]++nN 6 [some (.call (K1z a25) [K23 a26,.undef,.osl (List.map K14 ctx2),.undef,.undef] 1),oc (K1z a28),some (.eqv (.mk 56 false) ⟨[(250,.rs 56)],[(56,some (.arr (List.map K0h [a23,a28])))],[56]⟩),some (.call (K1z a30) [.tup []] 1),nW 57,oN]) [(10,.ra 2 0),(32,.ra 50 0),(33,.rs 52),(34,.ra 57 0)] [(2,zT),(49,.arr (List.map K0h [a07])),(50,.box [I 9,I a12,sI a02,.rs 49]),(52,rI a20),(57,K1y a30),(1000,K21 a26),(3000,rM K14 ctx2)] (cq (Q77.args (A1 := [I 0,I 0,.sl []]) (A2 := [I 0,I 0,.sl (List.map K0h [])]) (by simp only [List.map_nil]) (Ke7 _ _ a24)) K4z (ab (spec_dOf_ih _ _ a27) K53 (cq (Q77.res (r2 := K1z a28) (by simp only [share,Q02,K1i,Qex]) (Q77.shr (Kgr _ _ a29))) K6b (ac (congrArg (fun z => (⟨[(250,.rs 56)],[(56,some (.arr z))],[56]⟩ : Wr)) ((Qfc (K0o a23) (Qfc (K0o a28) Qfb)) : [K1z a23,K1z a28] = List.map K0h [a23,a28])) (Q77.args (A1 := [I 10,I 0,.sl (Q02 (List.map K0h [a23,a28]))]) (A2 := [I 10,I 0,.sl (List.map K0h [a23,a28])]) (by simp only [List.map_nil,K1d]) (Ke7 _ _ a31)) K4z tv)))) (sN (vz 52 (Qex a20) [(10,.ra 2 0),(32,.ra 50 0),(33,sI a20),(34,.ra 57 0)] [(2,zT),(49,.arr (List.map K0h [a07])),(50,.box [I 9,I a12,sI a02,.rs 49]),(57,K1y a30),(1000,K21 a26),(3000,rM K14 ctx2)] (vz 49 (K1d [a07]) [(10,.ra 2 0),(32,.ra 50 0),(33,sI a20),(34,.ra 57 0)] [(2,zT),(50,.box [I 9,I a12,sI a02,.sl (List.map K0h [a07])]),(57,K1y a30),(1000,K21 a26),(3000,rM K14 ctx2)] ?_)))
     obtain ⟨a32,a33,h⟩ := Qe5 h
     obtain rfl := os h
     exact rg hc none [oN,oN,some (.eqv (.call .undef [] 64) ⟨[(254,.sl (List.map K0h [a30]))],[(64,none)],[64]⟩),oN,oN,some (.eqv (.mk 65 false) ⟨[(257,.rs 65)],[(65,some (.arr (List.map K0h [(K01.mk 9 1 a20 [a30]),(K01.mk 9 a12 a02 [a07])])))],[65]⟩),some (.call (K1z a32) [.tup []] 1),oN] [(10,.ra 2 0)] [(2,K1y a32),(1000,K21 a26),(3000,rM K14 ctx2)] (ad (congrArg (fun z => (⟨[(254,.sl z)],[(64,none)],[64]⟩ : Wr)) ((Qfc (K0o a30) Qfb) : [K1z a30] = List.map K0h [a30])) (congrArg (fun z => (⟨[(257,.rs 65)],[(65,some (.arr z))],[65]⟩ : Wr)) ((Qfc (K0o (K01.mk 9 1 a20 [a30])) (Qfc (K0o (K01.mk 9 a12 a02 [a07])) Qfb)) : [AV.agg [I 9,I 1,sI a20,.sl (List.map K0h [a30])],AV.agg [I 9,I a12,sI a02,.sl (List.map K0h [a07])]] = List.map K0h [(K01.mk 9 1 a20 [a30]),(K01.mk 9 a12 a02 [a07])])) (Q77.args (A1 := [I 10,I 0,.sl (Q02 (List.map K0h [(K01.mk 9 1 a20 [a30]),(K01.mk 9 a12 a02 [a07])]))]) (A2 := [I 10,I 0,.sl (List.map K0h [(K01.mk 9 1 a20 [a30]),(K01.mk 9 a12 a02 [a07])])]) (by simp only [List.map_nil,K1d]) (Ke7 _ _ a33)) K4z tv) (rt (rp [false]))
    obtain rfl := os h
    exact sk (iv [])
   obtain rfl := os h
   exact sk (iv [])
  rcases fl with ⟨⟩ | r
  ·refine wf hF (sN (vz 49 (K1d [a07]) [(0,.ra 1000 0),(2,.rs 3000),(4,I deep4),(6,.ra 1 0),(10,.ra 2 0),(28,sI a02),(32,.ra 50 0)] [(1,K1v s1),(2,zT),(50,.box [I 9,I a12,sI a02,.sl (List.map K0h [a07])]),(1000,K21 a16),(3000,rM K14 ctx2)] ?_))
   obtain ⟨⟨a34,a35⟩,a36,h⟩ := Qe5 h
   obtain ⟨a37,a38,h⟩ := Qe5 h
   obtain rfl := os h
   exact rg hc (rx [[0],[0],[0],[0],[0],[0],[0,5],[0,1,2,3,4,5,6],[8],[9],[10]]) (nN 7 [some (.call (K1z a34) [K23 a35,.undef,.osl (List.map K14 ctx2),.undef,.undef] 1),some (.eqv (.mk 67 false) ⟨[(267,.rs 67)],[(67,some (.arr (List.map K0h [(K01.mk 9 a12 a02 [a07]),a34])))],[67]⟩),some (.call (K1z a37) [.tup []] 1),oN]) [(10,.ra 2 0)] [(2,K1y a37),(1000,K21 a35),(3000,rM K14 ctx2)] (ad (spec_dOf_ih _ _ a36) K53 (congrArg (fun z => (⟨[(267,.rs 67)],[(67,some (.arr z))],[67]⟩ : Wr)) ((Qfc (K0o (K01.mk 9 a12 a02 [a07])) (Qfc (K0o a34) Qfb)) : [AV.agg [I 9,I a12,sI a02,.sl (List.map K0h [a07])],K1z a34] = List.map K0h [(K01.mk 9 a12 a02 [a07]),a34])) (Q77.args (A1 := [I 10,I 0,.sl (Q02 (List.map K0h [(K01.mk 9 a12 a02 [a07]),a34]))]) (A2 := [I 10,I 0,.sl (List.map K0h [(K01.mk 9 a12 a02 [a07]),a34])]) (by simp only [List.map_nil,K1d]) (Ke7 _ _ a38)) (ai K4z tv)) (rt (rr [false]))
  refine Wp.mono hF ?_
  rintro _ _ ⟨rfl,hfin⟩
  obtain rfl := os h
  exact ⟨.inl rfl,hfin⟩
theorem Khe : ∀ p r,Kh5 p = some r → Kh9 p r := Khd.1
theorem Khf : ∀ p r,Kh6 p = some r → Kha p r := Khd.2.1
theorem Khg : ∀ p r,Kh7 p = some r → Khb p r := Khd.2.2.1
theorem Khh : ∀ p r,Kh8 p = some r → Khc p r := Khd.2.2.2
def Khi (c : Ctx) : Int → Exit → Q0a → Prop
 | a0 => Qdr c (.exit 0) (mkS [(1,I a0)] [])
mutual
def Khj (p : K01 × Int) : Option (Int) :=
 match p with
 | (t0,left1) =>
  (Khk (t0,(wr (left1 - 1)),0)) >>= fun a0 =>
  some a0
 partial_fixpoint
def Khk (p : K01 × Int × Int) : Option (Int) :=
 match p with
 | (t0,a0,a1) =>
  ((
  if (decide (a1 < (t0.fKids.length : Int))) = true then
  some ((decide (a0 ≥ 0)))
  else
  some (false)
  ) : Option (Bool)) >>= fun a2 =>
  if a2 = true then
  (idx t0.fKids a1) >>= fun a3 =>
  (Khj (a3,a0)) >>= fun a4 =>
  Khk (t0,a4,(wr (a1 + 1)))
  else
  some (a0)
 partial_fixpoint
end
def Khl (p : K01 × Int) (r : Int) : Prop :=
 match p with
 | (t0,left1) => Q77 Tryz.prog 113 [K1z t0,I left1] (I r) []
def Khm (p : K01 × Int × Int) (fl : Int) : Prop :=
 match p with
 | (t0,a0,a1) => ∀ c : Ctx,c.nt = 27 → WpL Tryz.prog c (cl (cl (cr (cl (cr (cr K6c)))))) (Khi c fl) (mkS [(1,I a0),(2,.ra 1 0),(5,I a1)] [(1,K1y t0)])
theorem Khn : (∀ p r,Khj p = some r → Khl p r) ∧ (∀ p r,Khk p = some r → Khm p r) := by
 refine Khj.mutual_partial_correctness Khl Khm ?_ ?_
 ·rintro spec_l2Left_l0_f spec_l2Left_l0_ih ⟨t0,left1⟩ r h
  refine b0 Tryz.f113 K6c 27 [(0,K1z t0),(1,I left1)] fun c hc => (rsd hc none [nW 1,oN] [0] [(2,.ra 1 0)] [(1,K1y t0)] tv (K9h hc 3 [1] [(1,I (wr (left1 - 1)))] (sN (K9e hc 1 [(1,I (wr (left1 - 1))),(2,.ra 1 0),(5,I 0)] (bk 0 ?_)))))
  obtain ⟨a0,a1,h⟩ := Qe5 h
  have hL := spec_l2Left_l0_ih _ _ a1 c hc
  refine lp (wl hL ?_)
  obtain rfl := os h
  exact Qdj (rs0 hc 2 [(4,I a0)] [] (rt (rq [true])))
 ·rintro spec_l2Left_f spec_l2Left_l0_f spec_l2Left_ih spec_l2Left_l0_ih ⟨t0,a2,a3⟩ r h
  intro c hc
  refine WpL.step (sN (sN ?_))
  obtain ⟨a4,a5,h⟩ := Qe5 h
  refine wi [] [(16,.bool a4)] ?_ ?_
  ·replace h := a5
   rcases is h with ⟨a6,h⟩ | ⟨a6,h⟩
   ·obtain rfl := os h
    exact rj hc none ([oN,oN,oN,nQ ⟨[(11,I (t0.fKids.length : Int))],[],[]⟩]++nN 4 [oT]) (ai (Qeb (d := 11) K0h t0.fKids) (ar 3 a6 tv))
   obtain rfl := os h
   exact rj hc none [oN,oN,oN,nQ ⟨[(11,I (t0.fKids.length : Int))],[],[]⟩,oN,oN,o_,o_,oF] (ai (Qeb (d := 11) K0h t0.fKids) (ar 2 (neT a6) (ai a6 tv)))
  clear a5
  refine ic h (fun a7 h => ?_) fun a7 h => ?_
  ·refine sk (sN (bk 1 ?_))
   obtain ⟨a8,a9,b1,b2,h⟩ := bq2 h
   exact K9c hc none [oN,oN,oN,eL (K1z a8),oN,oN,oc (I b1),oN] [16,1] [(1,I b1)] (ai (Qe9 a9 (K0o a8)) (cq (spec_l2Left_ih _ _ b2) K6d tv)) (ri0 hc 3 (Qdn (spec_l2Left_l0_ih _ _ h c hc)))
  obtain rfl := os h
  exact xt 0 (Qdh (Qdo (iv [])))
theorem Kho : ∀ p r,Khj p = some r → Khl p r := Khn.1
theorem Khp : ∀ p r,Khk p = some r → Khm p r := Khn.2
def Khq (c : Ctx) (c0 : K02) (s1 : K00) (ctx2 : LL) (deep3 : Int) (data4 : Bool) : (Int × Int × (List Int) × (List K01) × (List Int) × Int × Int) ⊕ ((K01 × K02)) → Exit → Q0a → Prop
 | .inl (a0,a1,a2,a3,a4,a5,a6) => Qdr c (.exit 0) (mkS [(10,.ra 2 0),(11,.ra 4 0)] [(2,zT),(4,.box [I a0,I a1,sI a2,sM K0h a3]),(1000,.box [sM U8 a4,I a5,I a6]),(3000,rM K14 ctx2)])
 | .inr r => Qe3 TIx Tryz.f201 [K23 c0,K1w s1,.osl (List.map K14 ctx2),I deep3,.bool data4] (K1z r.1,[K23 r.2,.undef,.osl (List.map K14 ctx2),.undef,.undef])
def Khr (p : K02 × K00 × LL × Int × Bool × (List Int) × Int × Int × Int × Int × (List Int) × (List K01) × Int) : Option ((Int × Int × (List Int) × (List K01) × (List Int) × Int × Int) ⊕ ((K01 × K02))) :=
 match p with
 | (c0,s1,ctx2,deep3,data4,a0,a1,a2,a3,a4,a5,a6,a7) =>
  if (decide (a7 < 3)) = true then
  ((
  (Khj ((K01.mk a3 a4 a5 a6),120)) >>= fun a8 =>
  if (decide (a8 ≥ 0)) = true then
  (Kfv (s1,ctx2,(K01.mk a3 a4 a5 a6))) >>= fun a9 =>
  some ((a9.ffault == 0))
  else
  some (false)
  ) : Option (Bool)) >>= fun b1 =>
  if b1 = true then
  some (.inr ((K01.mk a3 a4 a5 a6),(K02.mk a0 a1 a2)))
  else
  (Kdo ((K02.mk a0 a1 a2),s1,1,data4)) >>= fun (b2,b3) =>
  (K9t (deep3,2)) >>= fun b4 =>
  (Kh5 (b3,s1,ctx2,b2,b4)) >>= fun (b5,b6) =>
  Khr (c0,s1,ctx2,deep3,data4,b6.fb,b6.fi,b6.fh,b5.fOp,b5.fN,b5.fType,b5.fKids,(wr (a7 + 1)))
  else
  some (.inl (a3,a4,a5,a6,a0,a1,a2))
 partial_fixpoint
def Khs (p : K02 × K00 × LL × Int × Bool × (List Int) × Int × Int × Int × Int × (List Int) × (List K01) × Int) (fl : (Int × Int × (List Int) × (List K01) × (List Int) × Int × Int) ⊕ ((K01 × K02))) : Prop :=
 match p with
 | (c0,s1,ctx2,deep3,data4,a0,a1,a2,a3,a4,a5,a6,a7) => ∀ c : Ctx,c.nt = 53 → WpL Tryz.prog c (cl (cl (cr (cl (cr (cr K6e)))))) (Khq c c0 s1 ctx2 deep3 data4 fl) (mkS [(0,.ra 1000 0),(2,.rs 3000),(3,I deep3),(4,.bool data4),(6,.ra 1 0),(10,.ra 2 0),(11,.ra 4 0),(12,I a7)] [(1,K1v s1),(2,zT),(4,.box [I a3,I a4,sI a5,sM K0h a6]),(1000,.box [sM U8 a0,I a1,I a2]),(3000,rM K14 ctx2)])
theorem Kht : ∀ p r,Khr p = some r → Khs p r := by
 refine Khr.partial_correctness Khs ?_
 rintro spec_dIn_l0_f spec_dIn_l0_ih ⟨c0,s1,ctx2,deep3,data4,a0,a1,a2,a3,a4,a5,a6,a7⟩ r h
 intro c hc
 refine WpL.step (sN (K9h hc 2 [] [(23,.bool (decide (a7 < 3)))] (ic h (fun a8 h => ?_) fun a8 h => ?_)))
 ·refine sk (sN (bk 1 (sN (sN ?_))))
  obtain ⟨a9,b1,h⟩ := Qe5 h
  refine wi [23] [(36,.bool a9)] ?_ ?_
  ·replace h := b1
   obtain ⟨b2,b3,h⟩ := Qe5 h
   rcases is h with ⟨b4,h⟩ | ⟨b4,h⟩
   ·obtain ⟨b5,b6,h⟩ := Qe5 h
    obtain rfl := os h
    exact rj hc none ([oN,oc (I b2)]++nN 5 [oc (.agg [.undef,.undef,I b5.ffault,.undef]),oN,oN,oT]) (cq (Kho _ _ b3) K6d (ar 4 b4 (ac (Q77.args (A1 := [K1w s1,.sl (Q02 (List.map K14 ctx2)),.agg [I a3,I a4,sI a5,sM K0h a6]]) (A2 := [K1w s1,sL ctx2,.agg [I a3,I a4,sI a5,sM K0h a6]]) (by simp only [List.map_nil,K18]) (Q77.weak (cs := [sI b5.fty,sI b5.fneeds,I b5.ffault,sI b5.fpath]) (cs' := [.undef,.undef,I b5.ffault,.undef]) ⟨.inr rfl,.inr rfl,.inl rfl,.inr rfl,trivial⟩ (Kg4 _ _ b6))) K61 (Or.inr rfl : ([3000] : List Nat) = [] ∨ noSh (.agg [.undef,.undef,I b5.ffault,.undef]) = true) (ar 3 b4 tv))))
   obtain rfl := os h
   exact rj hc none ([oN,oc (I b2),oN,oN]++n_ 6 [oF]) (cq (Kho _ _ b3) K6d (ar 6 (neT b4) (ai b4 tv)))
  clear b1
  refine ic h (fun b7 h => ?_) fun b7 h => ?_
  ·obtain rfl := os h
   exact rs0 hc 2 [(10,.ra 2 0)] [(2,.box [I a3,I a4,sI a5,sM K0h a6]),(1000,.box [sM U8 a0,I a1,I a2]),(3000,rM K14 ctx2)] (rt (rp [false]))
  refine sk ?_
  obtain ⟨⟨b8,b9⟩,c1,h⟩ := Qe5 h
  obtain ⟨c2,c3,⟨c4,c5⟩,c6,h⟩ := bq2 h
  exact rgd hc (rx [[0],[0],[0],[0],[0],[0],[0,3,4,5],[0],[0,3,4,5,6,7],[9],[10]]) (nN 6 [some (.call (sI b8) [K23 b9,.undef,.undef,.undef] 1),oN,oc (I c2),some (.call (K1z c4) [K23 c5,.undef,.osl (List.map K14 ctx2),.undef,.undef] 1),oN]) [36] [] [(1,K1v s1),(2,zT),(4,K1y c4),(1000,K21 c5),(3000,rM K14 ctx2)] (ab (Q77.res (r2 := sI b8) (by simp only [share,Q02,Qex]) (Q77.shr (Kdq _ _ c1))) K4r (cq (K9v _ _ c3) K3h (ab (Khe _ _ c6) K53 tv))) (ri0 hc 3 (Qdn (spec_dIn_l0_ih _ _ h c hc)))
 obtain rfl := os h
 exact xt 0 (Qdh (Qdo (iv [])))
def Khu (p : K02 × K00 × LL × Int × Bool) : Option (K01 × K02) :=
 match p with
 | (c0,s1,ctx2,deep3,data4) =>
  (Kdo (c0,s1,2,data4)) >>= fun (a0,a1) =>
  (Kh5 (a1,s1,ctx2,a0,deep3)) >>= fun (a2,a3) =>
  (Khr (c0,s1,ctx2,deep3,data4,a3.fb,a3.fi,a3.fh,a2.fOp,a2.fN,a2.fType,a2.fKids,0)) >>= fun fl => match fl with
  | .inl (a4,a5,a6,a7,a8,a9,b1) =>
   (Khj ((K01.mk a4 a5 a6 a7),400)) >>= fun b2 =>
   ((
   if (decide (b2 < 0)) = true then
   (Ke5 (1,1,[])) >>= fun b3 =>
   some ((b3.fOp,b3.fN,b3.fType,b3.fKids))
   else
   some ((a4,a5,a6,a7))
   ) : Option (Int × Int × (List Int) × (List K01))) >>= fun (b4,b5,b6,b7) =>
   some ((K01.mk b4 b5 b6 b7),(K02.mk a8 a9 b1))
  | .inr r =>
   some r
def Khv (p : K02 × K00 × LL × Int × Bool) (r : K01 × K02) : Prop :=
 match p with
 | (c0,s1,ctx2,deep3,data4) => Q77 Tryz.prog 201 [K23 c0,K1w s1,.osl (List.map K14 ctx2),I deep3,.bool data4] (K1z r.1) [K23 r.2,.undef,.osl (List.map K14 ctx2),.undef,.undef]
theorem Khw : ∀ p r,Khu p = some r → Khv p r := by
 rintro ⟨c0,s1,ctx2,deep3,data4⟩ r h
 unfold Khu at h
 refine Q77.bodyO K3d (fn := Tryz.f201) (code := K6e) (by kernel_rfl) (by kernel_rfl) (by kernel_rfl) (nt := 53) (by kernel_rfl) (by kernel_rfl) (T := [(0,.ra 1000 0),(1,K1w s1),(2,.rs 3000),(3,I deep3),(4,.bool data4)]) (O := [(1000,K21 c0),(3000,rM K14 ctx2)]) (by kernel_rfl) (by kernel_rfl) (fun c hc => ?_)
 refine rs hc none [nW 1,nW 2] [(0,.ra 1000 0),(2,.rs 3000),(3,I deep3),(4,.bool data4),(6,.ra 1 0),(10,.ra 2 0)] [(1,K1v s1),(2,zT),(1000,K21 c0),(3000,rM K14 ctx2)] tv ?_
 obtain ⟨⟨a0,a1⟩,a2,h⟩ := Qe5 h
 obtain ⟨⟨a3,a4⟩,a5,h⟩ := Qe5 h
 refine rsd hc (rx [[0],[0],[0],[0],[0],[0],[0,3,4,5],[0],[8],[0],[10]]) (nN 6 [some (.call (sI a0) [K23 a1,.undef,.undef,.undef] 1),oN,some (.call (K1z a3) [K23 a4,.undef,.osl (List.map K14 ctx2),.undef,.undef] 1),nW 4,oN]) [] [(11,.ra 4 0)] [(1,K1v s1),(2,zT),(4,K1y a3),(1000,K21 a4),(3000,rM K14 ctx2)] (ad (Q77.res (r2 := sI a0) (by simp only [share,Q02,Qex]) (Q77.shr (Kdq _ _ a2))) K4r (Khe _ _ a5) K53 tv) (sN (K9e hc 1 [(0,.ra 1000 0),(2,.rs 3000),(3,I deep3),(4,.bool data4),(6,.ra 1 0),(10,.ra 2 0),(11,.ra 4 0),(12,I 0)] (bk 0 ?_)))
 obtain ⟨fl,a6,h⟩ := Qe5 h
 have hL := Kht _ _ a6 c hc
 refine lp ?_
 rcases fl with ⟨a7,a8,a9,b1,b2,b3,b4⟩ | r
 ·refine wl hL (Qdj (sN ?_))
  obtain ⟨b5,b6,h⟩ := Qe5 h
  refine K9g hc none [oN,oc (I b5),oN] [] [(50,.bool (decide (b5 < 0)))] (cq (Kho _ _ b6) K6d tv) ?_
  obtain ⟨⟨b7,b8,b9,c1⟩,c2,h⟩ := Qe5 h
  refine Wp.into (x := .normal) (mkS [(10,.ra 2 0),(11,.ra 4 0)] [(2,zT),(4,.box [I b7,I b8,sI b9,sM K0h c1]),(1000,.box [sM U8 b2,I b3,I b4]),(3000,rM K14 ctx2)]) ?_ ?_
  ·replace h := c2
   refine ic h (fun c3 h => ?_) fun c3 h => ?_
   ·obtain ⟨c4,c5,h⟩ := Qe5 h
    obtain ⟨rfl,hq0⟩ := Prod.mk.inj (os h)
    obtain ⟨rfl,hq1⟩ := Prod.mk.inj (hq0)
    obtain ⟨rfl,rfl⟩ := Prod.mk.inj (hq1)
    exact rj hc none [oc (K1z c4),oN] (cq (Q77.args (A1 := [I 1,I 1,.sl []]) (A2 := [I 1,I 1,.sl (List.map K0h [])]) (by simp only [List.map_nil]) (Ke7 _ _ c5)) K4z tv)
   refine sk ?_
   obtain ⟨rfl,hq0⟩ := Prod.mk.inj (os h)
   obtain ⟨rfl,hq1⟩ := Prod.mk.inj (hq0)
   obtain ⟨rfl,rfl⟩ := Prod.mk.inj (hq1)
   exact iv []
  clear c2
  obtain rfl := os h
  exact K9f hc 2 [11] [] [(2,.box [I b7,I b8,sI b9,sM K0h c1]),(1000,.box [sM U8 b2,I b3,I b4]),(3000,rM K14 ctx2)] (rt (rr [false]))
 refine WpL.mono hL ?_
 rintro _ _ ⟨rfl,hfin⟩
 obtain rfl := os h
 exact ⟨.inl rfl,hfin⟩
def Khx (p : K02 × Int × Int × Bool) : Option (K00 × LL × K01 × K02) :=
 match p with
 | (c0,deep1,most2,data3) =>
  (Kde c0) >>= fun (a0,a1) =>
  (Kdv (a1,a0,most2,data3)) >>= fun (a2,a3) =>
  (Khu (a3,a0,a2,deep1,data3)) >>= fun (a4,a5) =>
  some (a0,a2,a4,a5)
def Khy (p : K02 × Int × Int × Bool) (r : K00 × LL × K01 × K02) : Prop :=
 match p with
 | (c0,deep1,most2,data3) => Q77 Tryz.prog 137 [K23 c0,I deep1,I most2,.bool data3] (.tup [K1w r.1,.osl (List.map K14 r.2.1),K1z r.2.2.1]) [K23 r.2.2.2,.undef,.undef,.undef]
theorem Khz : ∀ p r,Khx p = some r → Khy p r := by
 rintro ⟨c0,deep1,most2,data3⟩ r h
 unfold Khx at h
 refine Q77.bodyO K3d (fn := Tryz.f137) (code := K6g) (by kernel_rfl) (by kernel_rfl) (by kernel_rfl) (nt := 28) (by kernel_rfl) (by kernel_rfl) (T := [(0,.ra 1000 0),(1,I deep1),(2,I most2),(3,.bool data3)]) (O := [(1000,K21 c0)]) (by kernel_rfl) (by kernel_rfl) (fun c hc => ?_)
 refine rs hc none [nW 1,oN,nW 2] [(0,.ra 1000 0),(1,I deep1),(2,I most2),(3,.bool data3),(8,.ra 1 0),(10,.ra 2 0)] [(1,zS),(2,zT),(1000,K21 c0)] tv ?_
 obtain ⟨⟨a0,a1⟩,a2,h⟩ := Qe5 h
 refine rs hc none [oN,some (.call (K2d a0) [K23 a1] 3),nW 6,oN] [(0,.ra 1000 0),(1,I deep1),(2,I most2),(3,.bool data3),(8,.ra 1 0),(10,.ra 2 0),(11,.ra 6 0)] [(1,zS),(2,zT),(3,rI a0.fPlus),(4,rI a0.fTimes),(5,rM AV.bool a0.fBelow),(6,.box [I a0.fSize,.rs 3,.rs 4,.rs 5]),(1000,K21 a1)] (ab (Kdg _ _ a2) K4q tv) (sN (vz 3 (Qex a0.fPlus) [(0,.ra 1000 0),(1,I deep1),(2,I most2),(3,.bool data3),(8,.ra 1 0),(10,.ra 2 0),(11,.ra 6 0)] [(1,zS),(2,zT),(4,rI a0.fTimes),(5,rM AV.bool a0.fBelow),(6,.box [I a0.fSize,sI a0.fPlus,.rs 4,.rs 5]),(1000,K21 a1)] (vz 4 (Qex a0.fTimes) [(0,.ra 1000 0),(1,I deep1),(2,I most2),(3,.bool data3),(8,.ra 1 0),(10,.ra 2 0),(11,.ra 6 0)] [(1,zS),(2,zT),(5,rM AV.bool a0.fBelow),(6,.box [I a0.fSize,sI a0.fPlus,sI a0.fTimes,.rs 5]),(1000,K21 a1)] (vz 5 (Qez a0.fBelow) [(0,.ra 1000 0),(1,I deep1),(2,I most2),(3,.bool data3),(8,.ra 1 0),(10,.ra 2 0),(11,.ra 6 0)] [(1,zS),(2,zT),(6,K1v a0),(1000,K21 a1)] ?_))))
 obtain ⟨⟨a3,a4⟩,a5,h⟩ := Qe5 h
 refine rg hc none (nN 4 [some (.call (oM K10 a3) [K23 a4,.undef,.undef,.undef] 7),oN]) [(0,.ra 1000 0),(1,I deep1),(3,.bool data3),(8,.ra 1 0),(10,.ra 2 0),(11,.ra 6 0),(12,.rs 7)] [(1,zS),(2,zT),(6,K1v a0),(7,rM K10 a3),(1000,K21 a4)] (ab (Kdx _ _ a5) K4v tv) (sN (Wp.view (fun a w hv => SRx.shareL 7 [1,2,6,7,1000] (xs := List.map K10 a3) (xs' := List.map K14 a3) hv (by kernel_rfl) (K19 _) (by kernel_rfl)) (?_ : Wp Tryz.prog c _ _ (mkS [(0,.ra 1000 0),(1,I deep1),(3,.bool data3),(8,.ra 1 0),(10,.ra 2 0),(11,.ra 6 0),(12,.rs 7)] [(1,zS),(2,zT),(6,K1v a0),(7,rM K14 a3),(1000,K21 a4)]))))
 obtain ⟨⟨a6,a7⟩,a8,h⟩ := Qe5 h
 obtain rfl := os h
 exact rg hc (rx [[0],[0],[0],[0],[0],[0],[0],[0,2,3,4,5,6],[1,2,3,4,5,6,7],[9],[10]]) (nN 7 [some (.call (K1z a6) [K23 a7,.undef,.osl (List.map K14 a3),.undef,.undef] 1),oN,oN,oN]) [(8,.ra 1 0),(9,.rs 7),(10,.ra 2 0)] [(1,K1v a0),(2,K1y a6),(7,rM K14 a3),(1000,K21 a7)] (ab (Khw _ _ a8) K6f tv) (rt (rr [false,true,false]))
def Ki0 (p : K02 × (List Int)) : Option (Int × K02) :=
 match p with
 | (c0,list1) =>
  (Ka2 (c0,(list1.length : Int))) >>= fun (a0,a1) =>
  (idx list1 a0) >>= fun a2 =>
  some (a2,a1)
def Ki1 (p : K02 × (List Int)) (r : Int × K02) : Prop :=
 match p with
 | (c0,list1) => Q77 Tryz.prog 156 [K23 c0,sI list1] (I r.1) [K23 r.2,.undef]
theorem Ki2 : ∀ p r,Ki0 p = some r → Ki1 p r := by
 rintro ⟨c0,list1⟩ r h
 unfold Ki0 at h
 refine Q77.bodyO K3d (fn := Tryz.f156) (code := K6i) (by kernel_rfl) (by kernel_rfl) (by kernel_rfl) (nt := 12) (by kernel_rfl) (by kernel_rfl) (T := [(0,.ra 1000 0),(1,sI list1)]) (O := [(1000,K21 c0)]) (by kernel_rfl) (by kernel_rfl) (fun c hc => ?_)
 refine K9e hc 1 [(0,.ra 1000 0),(1,sI list1)] ?_
 obtain ⟨⟨a0,a1⟩,a2,h⟩ := Qe5 h
 obtain ⟨a3,a4,h⟩ := Qe5 h
 obtain rfl := os h
 exact rs hc none [oN,oN,oN,nQ ⟨[(8,I (list1.length : Int))],[],[]⟩,some (.call (I a0) [K23 a1,.undef] 1),eL (I a3),oN,oN] [(4,I a3)] [(1000,K21 a1)] (ad (Qeb (d := 8) I list1) (Ka4 _ _ a2) K3m (ix a4) tv) (rt (rr [true]))
def Ki3 (c0 : K02) : Option (Int × K02) :=
 (Ki0 (c0,[(-1),0,1,2,3,7,8,15,16,17,40,9223372036854775807,(-9223372036854775808)])) >>= fun (a0,a1) =>
 some (a0,a1)
def Ki4 (c0 : K02) (r : Int × K02) : Prop :=
 Q77 Tryz.prog 99 [K23 c0] (I r.1) [K23 r.2]
theorem Ki5 : ∀ p r,Ki3 p = some r → Ki4 p r := by
 rintro c0 r h
 unfold Ki3 at h
 refine Q77.bodyO K3d (fn := Tryz.f99) (code := B99) (by kernel_rfl) (by kernel_rfl) (by kernel_rfl) (nt := 6) (by kernel_rfl) (by kernel_rfl) (T := [(0,.ra 1000 0)]) (O := [(1000,K21 c0)]) (by kernel_rfl) (by kernel_rfl) (fun c hc => ?_)
 refine K9e hc 1 [(0,.ra 1000 0)] ?_
 obtain ⟨⟨a0,a1⟩,a2,h⟩ := Qe5 h
 obtain rfl := os h
 exact rs hc none [oN,some (.call .undef [] 2),some (.call (I a0) [K23 a1,.undef] 1),oN] [(2,I a0)] [(1000,K21 a1)] (ab (Ki2 _ _ a2) K6j tv) (rt (rr [true]))
def Ki6 (c0 : K02) : Option (K00 × K02) :=
 (Kde c0) >>= fun (a0,a1) =>
 (Ka2 (a1,9)) >>= fun (a2,a3) =>
 ((
 if (a2 == 0) = true then
 (Ka2 (a3,(a0.fPlus.length : Int))) >>= fun (a4,a5) =>
 (Ka2 (a5,(wr (a0.fSize + 1)))) >>= fun (a6,a7) =>
 (idx a0.fPlus a4) >>= fun a8 =>
 some ((a0.fSize,(List.set a0.fPlus (Int.toNat a4) a6),a0.fTimes,a0.fBelow,a7.fb,a7.fi,a7.fh))
 else
 ((
 if (a2 == 1) = true then
 (Ka2 (a3,(a0.fTimes.length : Int))) >>= fun (a9,b1) =>
 (Ka2 (b1,a0.fSize)) >>= fun (b2,b3) =>
 (idx a0.fTimes a9) >>= fun b4 =>
 some ((a0.fSize,(List.set a0.fTimes (Int.toNat a9) b2),a0.fBelow,b3.fb,b3.fi,b3.fh))
 else
 ((
 if (a2 == 2) = true then
 (Ka2 (a3,(a0.fBelow.length : Int))) >>= fun (b5,b6) =>
 (idx a0.fBelow b5) >>= fun b7 =>
 (idx a0.fBelow b5) >>= fun b8 =>
 some ((a0.fSize,(List.set a0.fBelow (Int.toNat b5) (!b7)),b6.fb,b6.fi,b6.fh))
 else
 ((
 if (a2 == 3) = true then
 (Ki3 a3) >>= fun (b9,c1) =>
 some ((b9,c1.fb,c1.fi,c1.fh))
 else
 some ((a0.fSize,a3.fb,a3.fi,a3.fh))
 ) : Option (Int × (List Int) × Int × Int)) >>= fun (c2,c3,c4,c5) =>
 some ((c2,a0.fBelow,c3,c4,c5))
 ) : Option (Int × (List Bool) × (List Int) × Int × Int)) >>= fun (c6,c7,c8,c9,d0) =>
 some ((c6,a0.fTimes,c7,c8,c9,d0))
 ) : Option (Int × (List Int) × (List Bool) × (List Int) × Int × Int)) >>= fun (d1,d2,d3,d4,d5,d6) =>
 some ((d1,a0.fPlus,d2,d3,d4,d5,d6))
 ) : Option (Int × (List Int) × (List Int) × (List Bool) × (List Int) × Int × Int)) >>= fun (d7,d8,d9,e0,e1,e2,e3) =>
 some ((K00.mk d7 d8 d9 e0),(K02.mk e1 e2 e3))
def Ki7 (c0 : K02) (r : K00 × K02) : Prop :=
 Q77 Tryz.prog 74 [K23 c0] (.agg [I r.1.fSize,.osl (List.map I r.1.fPlus),.osl (List.map I r.1.fTimes),.osl (List.map AV.bool r.1.fBelow)]) [K23 r.2]
theorem Ki8 : ∀ p r,Ki6 p = some r → Ki7 p r := by
 rintro c0 r h
 unfold Ki6 at h
 refine Q77.bodyO K3d (fn := Tryz.f74) (code := B74) (by kernel_rfl) (by kernel_rfl) (by kernel_rfl) (nt := 61) (by kernel_rfl) (by kernel_rfl) (T := [(0,.ra 1000 0)]) (O := [(1000,K21 c0)]) (by kernel_rfl) (by kernel_rfl) (fun c hc => ?_)
 refine rs hc none [nW 1] [(0,.ra 1000 0),(2,.ra 1 0)] [(1,zS),(1000,K21 c0)] tv ?_
 obtain ⟨⟨a0,a1⟩,a2,h⟩ := Qe5 h
 refine rsd hc none [oN,some (.call (K2d a0) [K23 a1] 2),nW 5,oN] [] [(3,.ra 5 0)] [(1,zS),(2,rI a0.fPlus),(3,rI a0.fTimes),(4,rM AV.bool a0.fBelow),(5,.box [I a0.fSize,.rs 2,.rs 3,.rs 4]),(1000,K21 a1)] (ab (Kdg _ _ a2) K4q tv) (sN ?_)
 obtain ⟨⟨a3,a4⟩,a5,h⟩ := Qe5 h
 refine rsd hc none [oN,some (.call (I a3) [K23 a4,.undef] 1)] [] [(8,I a3)] [(1,zS),(2,rI a0.fPlus),(3,rI a0.fTimes),(4,rM AV.bool a0.fBelow),(5,.box [I a0.fSize,.rs 2,.rs 3,.rs 4]),(1000,K21 a4)] (ab (Ka4 _ _ a5) K3m tv) (bk 0 (K9h hc 2 [] [(9,.bool (a3 == 0))] ?_))
 obtain ⟨⟨a6,a7,a8,a9,b1,b2,b3⟩,b4,h⟩ := Qe5 h
 refine Wp.into (x := .normal) (mkS [(2,.ra 1 0),(3,.ra 5 0)] [(1,zS),(2,rI a7),(3,rI a8),(4,rM AV.bool a9),(5,.box [I a6,.rs 2,.rs 3,.rs 4]),(1000,.box [sM U8 b1,I b2,I b3])]) ?_ ?_
 ·replace h := b4
  refine ic h (fun b5 h => ?_) fun b5 h => ?_
  ·obtain ⟨⟨b6,b7⟩,b8,h⟩ := Qe5 h
   obtain ⟨⟨b9,c1⟩,c2,h⟩ := Qe5 h
   obtain ⟨c3,c4,h⟩ := Qe5 h
   obtain ⟨rfl,hq0⟩ := Prod.mk.inj (os h)
   obtain ⟨rfl,hq1⟩ := Prod.mk.inj (hq0)
   obtain ⟨rfl,hq2⟩ := Prod.mk.inj (hq1)
   obtain ⟨rfl,hq3⟩ := Prod.mk.inj (hq2)
   obtain ⟨rfl,hq4⟩ := Prod.mk.inj (hq3)
   obtain ⟨rfl,rfl⟩ := Prod.mk.inj (hq4)
   exact rj hc (rx [[0],[1],[0],[0],[0,3],[0,3,4],[0,2,3,4,5],[0],[0],[0,8],[0,8,9],[0,2,3,4,5,6,7,8,9,10],[12],[13]]) (nN 5 ([nQ ⟨[(16,I (a0.fPlus.length : Int))],[],[]⟩,some (.call (I b6) [K23 b7,.undef] 1)]++nN 4 [some (.call (I b9) [K23 c1,.undef] 1),oN,some (.eqv (.mk 0 true) ⟨[],[(2,some (.arr (List.map I (List.set a0.fPlus (Int.toNat b6) b9))))],[]⟩)])) (ad (Qeb (d := 16) I a0.fPlus) (Ka4 _ _ b8) K3m (Ka4 _ _ c2) (ad K3m (Qea (enc := I) c4) (congrArg (fun z => (⟨[],[(2,some (.arr z))],[]⟩ : Wr)) (Qf8 (enc := I) (i := Int.toNat b6) (l := a0.fPlus) (v := b9) (x := I b9) (Qek b9))) (Qf9 (enc := I) (sz := 1) Qeo c4) tv))
  refine K9h hc 2 [9] [(24,.bool (a3 == 1))] ?_
  obtain ⟨⟨c5,c6,c7,c8,c9,d0⟩,d1,h⟩ := Qe5 h
  refine Wp.into (x := .normal) (mkS [(2,.ra 1 0),(3,.ra 5 0)] [(1,zS),(2,rI a0.fPlus),(3,rI c6),(4,rM AV.bool c7),(5,.box [I c5,.rs 2,.rs 3,.rs 4]),(1000,.box [sM U8 c8,I c9,I d0])]) ?_ ?_
  ·replace h := d1
   refine ic h (fun d2 h => ?_) fun d2 h => ?_
   ·obtain ⟨⟨d3,d4⟩,d5,h⟩ := Qe5 h
    obtain ⟨⟨d6,d7⟩,d8,h⟩ := Qe5 h
    obtain ⟨d9,e0,h⟩ := Qe5 h
    obtain ⟨rfl,hq0⟩ := Prod.mk.inj (os h)
    obtain ⟨rfl,hq1⟩ := Prod.mk.inj (hq0)
    obtain ⟨rfl,hq2⟩ := Prod.mk.inj (hq1)
    obtain ⟨rfl,hq3⟩ := Prod.mk.inj (hq2)
    obtain ⟨rfl,rfl⟩ := Prod.mk.inj (hq3)
    exact rj hc (rx [[0],[1],[0],[0],[0,3],[0,3,4],[0,2,3,4,5],[0],[0],[0,8],[0,2,3,4,5,6,7,8,9],[11],[12]]) (nN 5 [nQ ⟨[(31,I (a0.fTimes.length : Int))],[],[]⟩,some (.call (I d3) [K23 d4,.undef] 1),oN,oN,oN,some (.call (I d6) [K23 d7,.undef] 1),oN,some (.eqv (.mk 0 true) ⟨[],[(3,some (.arr (List.map I (List.set a0.fTimes (Int.toNat d3) d6))))],[]⟩)]) (ad (Qeb (d := 31) I a0.fTimes) (Ka4 _ _ d5) K3m (Ka4 _ _ d8) (ad K3m (Qea (enc := I) e0) (congrArg (fun z => (⟨[],[(3,some (.arr z))],[]⟩ : Wr)) (Qf8 (enc := I) (i := Int.toNat d3) (l := a0.fTimes) (v := d6) (x := I d6) (Qek d6))) (Qf9 (enc := I) (sz := 1) Qeo e0) tv))
   refine K9h hc 2 [24] [(38,.bool (a3 == 2))] ?_
   obtain ⟨⟨e1,e2,e3,e4,e5⟩,e6,h⟩ := Qe5 h
   refine Wp.into (x := .normal) (mkS [(2,.ra 1 0),(3,.ra 5 0)] [(1,zS),(2,rI a0.fPlus),(3,rI a0.fTimes),(4,rM AV.bool e2),(5,.box [I e1,.rs 2,.rs 3,.rs 4]),(1000,.box [sM U8 e3,I e4,I e5])]) ?_ ?_
   ·replace h := e6
    refine ic h (fun e7 h => ?_) fun e7 h => ?_
    ·obtain ⟨⟨e8,e9⟩,f0,h⟩ := Qe5 h
     refine rs hc none [oN,oN,oN,nQ ⟨[(43,I (a0.fBelow.length : Int))],[],[]⟩,some (.call (I e8) [K23 e9,.undef] 1),oN] [(2,.ra 1 0),(3,.ra 5 0),(4,I e8)] [(1,zS),(2,rI a0.fPlus),(3,rI a0.fTimes),(4,rM AV.bool a0.fBelow),(5,.box [I a0.fSize,.rs 2,.rs 3,.rs 4]),(1000,K21 e9)] (ac (Qeb (d := 43) AV.bool a0.fBelow) (Ka4 _ _ f0) K3m tv) ?_
     obtain ⟨f1,f2,f3,f4,h⟩ := bq2 h
     obtain ⟨rfl,hq0⟩ := Prod.mk.inj (os h)
     obtain ⟨rfl,hq1⟩ := Prod.mk.inj (hq0)
     obtain ⟨rfl,hq2⟩ := Prod.mk.inj (hq1)
     obtain ⟨rfl,rfl⟩ := Prod.mk.inj (hq2)
     exact rj hc (rx [[0],[1],[0],[0],[0,3],[0],[0,3,4,5],[0,3,4,5,6],[0,3,4,5,6,7],[9],[10]]) (nN 7 [eB f1,oN,oN,some (.eqv (.mk 0 true) ⟨[],[(4,some (rM AV.bool (List.set a0.fBelow (Int.toNat e8) (!f1))))],[]⟩)]) (ad (Qea (enc := AV.bool) f2) (xB f2).2 (Qea (enc := AV.bool) f4) (congrArg (fun z => (⟨[],[(4,some (.arr z))],[]⟩ : Wr)) (Qf8 (enc := AV.bool) (i := Int.toNat e8) (l := a0.fBelow) (v := (!f1)) (x := AV.bool (!f1)) (Qem (!f1)))) (ai (Qf9 (enc := AV.bool) (sz := 1) Qeq f4) tv))
    refine K9e hc 2 [(0,.ra 1000 0),(2,.ra 1 0),(3,.ra 5 0),(55,.bool (a3 == 3))] ?_
    obtain ⟨⟨f5,f6,f7,f8⟩,f9,h⟩ := Qe5 h
    refine Wp.into (x := .normal) (mkS [(2,.ra 1 0),(3,.ra 5 0)] [(1,zS),(2,rI a0.fPlus),(3,rI a0.fTimes),(4,rM AV.bool a0.fBelow),(5,.box [I f5,.rs 2,.rs 3,.rs 4]),(1000,.box [sM U8 f6,I f7,I f8])]) ?_ ?_
    ·replace h := f9
     refine ic h (fun g0 h => ?_) fun g0 h => ?_
     ·obtain ⟨⟨g1,g2⟩,g3,h⟩ := Qe5 h
      obtain ⟨rfl,hq0⟩ := Prod.mk.inj (os h)
      obtain ⟨rfl,hq1⟩ := Prod.mk.inj (hq0)
      obtain ⟨rfl,rfl⟩ := Prod.mk.inj (hq1)
      exact rj hc none [oN,some (.call (I g1) [K23 g2] 1),oN,oN] (ab (Ki5 _ _ g3) K6k tv)
     refine sk ?_
     obtain ⟨rfl,hq0⟩ := Prod.mk.inj (os h)
     obtain ⟨rfl,hq1⟩ := Prod.mk.inj (hq0)
     obtain ⟨rfl,rfl⟩ := Prod.mk.inj (hq1)
     exact iv []
    clear f9
    obtain ⟨rfl,hq0⟩ := Prod.mk.inj (os h)
    obtain ⟨rfl,hq1⟩ := Prod.mk.inj (hq0)
    obtain ⟨rfl,hq2⟩ := Prod.mk.inj (hq1)
    obtain ⟨rfl,rfl⟩ := Prod.mk.inj (hq2)
    exact im
   clear e6
   obtain ⟨rfl,hq0⟩ := Prod.mk.inj (os h)
   obtain ⟨rfl,hq1⟩ := Prod.mk.inj (hq0)
   obtain ⟨rfl,hq2⟩ := Prod.mk.inj (hq1)
   obtain ⟨rfl,hq3⟩ := Prod.mk.inj (hq2)
   obtain ⟨rfl,rfl⟩ := Prod.mk.inj (hq3)
   exact im
  clear d1
  obtain ⟨rfl,hq0⟩ := Prod.mk.inj (os h)
  obtain ⟨rfl,hq1⟩ := Prod.mk.inj (hq0)
  obtain ⟨rfl,hq2⟩ := Prod.mk.inj (hq1)
  obtain ⟨rfl,hq3⟩ := Prod.mk.inj (hq2)
  obtain ⟨rfl,hq4⟩ := Prod.mk.inj (hq3)
  obtain ⟨rfl,rfl⟩ := Prod.mk.inj (hq4)
  exact im
 clear b4
 obtain rfl := os h
 exact K9f hc 2 [3] [] [(1,.box [I a6,.rs 2,.rs 3,.rs 4]),(2,rI a7),(3,rI a8),(4,rM AV.bool a9),(1000,.box [sM U8 b1,I b2,I b3])] (rt (rr [true]))
def Ki9 (c : Ctx) (a0 : K02) : (List Int) → Exit → Q0a → Prop
 | a1 => Qdr c (.exit 1) (mkS [(5,.rs 2)] [(2,rI a1),(1000,K21 a0)])
def Kia (p : K02 × (List Int)) : Option ((List Int)) :=
 match p with
 | (a0,a1) =>
  if (decide ((a1.length : Int) < 30)) = true then
  (Kdl (1,[a1,a1])) >>= fun a2 =>
  Kia (a0,a2)
  else
  some (a1)
 partial_fixpoint
def Kib (p : K02 × (List Int)) (fl : (List Int)) : Prop :=
 match p with
 | (a0,a1) => ∀ c : Ctx,c.nt = 46 → WpL Tryz.prog c (cl (cl (cl (cr (cr (cr (cr (cr (cr (cr (cl (cr (cl (cr (cr B76))))))))))))))) (Ki9 c a0 fl) (mkS [(5,.rs 2)] [(2,rI a1),(1000,K21 a0)])
theorem Kic : ∀ p r,Kia p = some r → Kib p r := by
 refine Kia.partial_correctness Kib ?_
 rintro spec_dSpoiltType_l0_f spec_dSpoiltType_l0_ih ⟨a0,a1⟩ r h
 intro c hc
 refine WpL.step (sN (rss hc none [oN,nQ ⟨[(39,I (a1.length : Int))],[],[]⟩,oN] [(5,.rs 2),(40,.bool (decide ((a1.length : Int) < 30)))] (ai (Qeb (d := 39) I a1) tv) (ic h (fun a2 h => ?_) fun a2 h => ?_)))
 ·refine sk (bk 2 (vz 2 (Qex a1) [(5,sI a1),(40,.bool (decide ((a1.length : Int) < 30)))] [(1000,K21 a0)] ?_))
  obtain ⟨a3,a4,h⟩ := Qe5 h
  exact rg hc none [oN,oN,some (.mk 11 false),some (.call (oI a3) [] 12),oN] [(5,.rs 12)] [(12,rI a3),(1000,K21 a0)] (ac (Q77.args (A1 := [I 1,.sl (Q02 (List.map K14 [a1,a1]))]) (A2 := [I 1,.sl (List.map K14 [a1,a1])]) (by simp only [List.map_nil,K18]) (Kdn _ _ a4)) K4t (Or.inr (Qf5 Qf1 a3) : ([11] : List Nat) = [] ∨ noSh (oI a3) = true) tv) (Qdn (WpL.view (fun a w hv => SRx.renL [(2,12)] hv (by kernel_rfl) (by kernel_rfl) (by kernel_rfl)) (spec_dSpoiltType_l0_ih _ _ h c hc)))
 obtain rfl := os h
 exact xt 1 (Qdh (Qdo (iv [])))
def Kid (p : K02 × K00) : Option ((List Int) × K02) :=
 match p with
 | (c0,s1) =>
  (Ka5 (c0,2)) >>= fun (a0,a1) =>
  (Kdo (a1,s1,3,a0)) >>= fun (a2,a3) =>
  (Ka2 (a3,14)) >>= fun (a4,a5) =>
  ((
  if (a4 == 0) = true then
  (Ka2 (a5,(a2.length : Int))) >>= fun (a6,a7) =>
  (Ki0 (a7,[(-1),0,2,18,19,34,35,36,37,1000])) >>= fun (a8,a9) =>
  (idx a2 a6) >>= fun b1 =>
  some (((List.set a2 (Int.toNat a6) a8),a9.fb,a9.fi,a9.fh))
  else
  ((
  if (a4 == 1) = true then
  (cut a2 none (some (wr ((a2.length : Int) - 1))) none) >>= fun b2 =>
  some (b2)
  else
  ((
  if (a4 == 2) = true then
  (Qei (a2.length + [0].length) 8) >>= fun _ =>
  some ((a2 ++ [0]))
  else
  ((
  if (a4 == 3) = true then
  (Kia (a5,a2)) >>= fun b3 =>
  some (b3)
  else
  some (a2)
  ) : Option ((List Int))) >>= fun b4 =>
  some (b4)
  ) : Option ((List Int))) >>= fun b5 =>
  some (b5)
  ) : Option ((List Int))) >>= fun b6 =>
  some ((b6,a5.fb,a5.fi,a5.fh))
  ) : Option ((List Int) × (List Int) × Int × Int)) >>= fun (b7,b8,b9,c1) =>
  some (b7,(K02.mk b8 b9 c1))
def Kie (p : K02 × K00) (r : (List Int) × K02) : Prop :=
 match p with
 | (c0,s1) => Q77 Tryz.prog 76 [K23 c0,K1w s1] (sI r.1) [K23 r.2,.undef]
theorem Kif : ∀ p r,Kid p = some r → Kie p r := by
 rintro ⟨c0,s1⟩ r h
 unfold Kid at h
 refine Q77.bodyO K3d (fn := Tryz.f76) (code := B76) (by kernel_rfl) (by kernel_rfl) (by kernel_rfl) (nt := 46) (by kernel_rfl) (by kernel_rfl) (T := [(0,.ra 1000 0),(1,K1w s1)]) (O := [(1000,K21 c0)]) (by kernel_rfl) (by kernel_rfl) (fun c hc => ?_)
 refine rs hc none [nW 1,oN] [(0,.ra 1000 0),(3,.ra 1 0)] [(1,K1v s1),(1000,K21 c0)] tv ?_
 obtain ⟨⟨a0,a1⟩,a2,h⟩ := Qe5 h
 obtain ⟨⟨a3,a4⟩,a5,h⟩ := Qe5 h
 refine rsd hc (rx [[0],[0],[0],[0,2],[4],[5]]) [oN,oN,oN,some (.call (.bool a0) [K23 a1,.undef] 1),some (.call (oI a3) [K23 a4,.undef,.undef,.undef] 2),oN] [3] [(5,.rs 2)] [(2,rI a3),(1000,K21 a4)] (ad (Ka7 _ _ a2) K3n (Kdq _ _ a5) K4r tv) (sN ?_)
 obtain ⟨⟨a6,a7⟩,a8,h⟩ := Qe5 h
 refine rsd hc none [oN,some (.call (I a6) [K23 a7,.undef] 1)] [] [(12,I a6)] [(2,rI a3),(1000,K21 a7)] (ab (Ka4 _ _ a8) K3m tv) (bk 0 (K9h hc 2 [] [(13,.bool (a6 == 0))] ?_))
 obtain ⟨⟨a9,b1,b2,b3⟩,b4,h⟩ := Qe5 h
 refine Wp.into (x := .normal) (mkS [(5,sI a9)] [(1000,.box [sM U8 b1,I b2,I b3])]) ?_ ?_
 ·replace h := b4
  refine ic h (fun b5 h => ?_) fun b5 h => ?_
  ·obtain ⟨⟨b6,b7⟩,b8,h⟩ := Qe5 h
   obtain ⟨⟨b9,c1⟩,c2,h⟩ := Qe5 h
   obtain ⟨c3,c4,h⟩ := Qe5 h
   refine rg hc none [oN,oN,oN,nQ ⟨[(18,I (a3.length : Int))],[],[]⟩,some (.call (I b6) [K23 b7,.undef] 1),oN,some (.call .undef [] 4),some (.call (I b9) [K23 c1,.undef] 1),oN,some (.eqv (.mk 0 true) ⟨[],[(2,some (.arr (List.map I (List.set a3 (Int.toNat b6) b9))))],[]⟩)] [(5,.rs 2)] [(2,.arr (List.map I (List.set a3 (Int.toNat b6) b9))),(1000,K21 c1)] (ad (Qeb (d := 18) I a3) (Ka4 _ _ b8) K3m (Ki2 _ _ c2) (ad K6j (Qea (enc := I) c4) (congrArg (fun z => (⟨[],[(2,some (.arr z))],[]⟩ : Wr)) (Qf8 (enc := I) (i := Int.toNat b6) (l := a3) (v := b9) (x := I b9) (Qek b9))) (Qf9 (enc := I) (sz := 1) Qeo c4) tv)) ?_
   obtain ⟨rfl,hq0⟩ := Prod.mk.inj (os h)
   obtain ⟨rfl,hq1⟩ := Prod.mk.inj (hq0)
   obtain ⟨rfl,rfl⟩ := Prod.mk.inj (hq1)
   exact Qdr.view (fun a w hv => SRx.renL [] (SRx.frzC 2 (xs := List.map I (List.set a3 (Int.toNat b6) b9)) (xs' := List.map I (List.set a3 (Int.toNat b6) b9)) hv (by kernel_rfl) (Qex _)) (by kernel_rfl) (by kernel_rfl) (by kernel_rfl))
  refine K9e hc 2 [(5,.rs 2),(12,I a6),(24,.bool (a6 == 1))] ?_
  obtain ⟨c5,c6,h⟩ := Qe5 h
  refine Wp.into (x := .normal) (mkS [(5,sI c5)] [(1000,K21 a7)]) ?_ ?_
  ·replace h := c6
   refine ic h (fun c7 h => ?_) fun c7 h => ?_
   ·refine vz 2 (Qex a3) [(5,sI a3),(12,I a6),(24,.bool (a6 == 1))] [(1000,K21 a7)] ?_
    obtain ⟨c8,c9,h⟩ := Qe5 h
    obtain rfl := os h
    exact rj hc none [oN,oN,nQ ⟨[(28,I (a3.length : Int))],[],[]⟩,oN,nQ ⟨[(30,sI c8)],[],[]⟩,oN] (ac (Qeb (d := 28) I a3) (Qee (d := 30) I c9) (Qed (enc := I) (sz := 1) Qeo c9) tv)
   refine K9h hc 2 [24] [(31,.bool (a6 == 2))] ?_
   obtain ⟨d0,d1,h⟩ := Qe5 h
   refine Wp.into (x := .normal) (mkS [(5,.rs 6)] [(6,rI d0),(1000,K21 a7)]) ?_ ?_
   ·replace h := d1
    refine ic h (fun d2 h => ?_) fun d2 h => ?_
    ·obtain ⟨_,d3,h⟩ := Qe5 h
     obtain rfl := os h
     exact rj hc none [oN,mK 5,some (.eqv (.mk 6 true) ⟨[(35,.rs 6)],[(6,some (rI (a3 ++ [0]))),(2,none),(5,none)],[6]⟩),oN] (ab (congrArg (fun z => (⟨[(35,.rs 6)],[(6,some (.arr z)),(2,none),(5,none)],[6]⟩ : Wr)) ((List.map_append).symm : (List.map I a3) ++ (List.map I [0]) = List.map I (a3 ++ [0]))) (Qej (enc1 := I) (enc2 := I) (e1 := a3) (e2 := [0]) (sz := 1) Qes Qes d3) tv)
    refine K9e hc 2 [(5,.rs 2),(36,.bool (a6 == 3))] ?_
    obtain ⟨d4,d5,h⟩ := Qe5 h
    refine Wp.into (x := .normal) (mkS [(5,.rs 2)] [(2,rI d4),(1000,K21 a7)]) ?_ ?_
    ·replace h := d5
     refine ic h (fun d6 h => ?_) fun d6 h => ?_
     ·refine bk 1 ?_
      obtain ⟨d7,d8,h⟩ := Qe5 h
      have hL := Kic _ _ d8 c hc
      refine Wp.loopN (by kernel_rfl) (WpL.view (fun a w hv => SRx.renL [] hv (by kernel_rfl) (by kernel_rfl) (by kernel_rfl)) (?_ : WpL _ c _ _ (mkS [(5,.rs 2)] [(2,rI a3),(1000,K21 a7)])))
      refine wl hL ?_
      obtain rfl := os h
      exact Qdj im
     obtain rfl := os h
     exact sk (iv [])
    clear d5
    obtain rfl := os h
    exact iv [(6,2)]
   clear d1
   obtain rfl := os h
   exact Qdr.view (fun a w hv => SRx.renL [] (SRx.frzC 6 (xs := List.map I d0) (xs' := List.map I d0) hv (by kernel_rfl) (Qex _)) (by kernel_rfl) (by kernel_rfl) (by kernel_rfl))
  clear c6
  obtain ⟨rfl,hq0⟩ := Prod.mk.inj (os h)
  obtain ⟨rfl,hq1⟩ := Prod.mk.inj (hq0)
  obtain ⟨rfl,rfl⟩ := Prod.mk.inj (hq1)
  exact im
 clear b4
 obtain rfl := os h
 exact K9e hc 2 [(4,sI a9)] (rt (rr [false]))
theorem Kig {op N : Int} {ty : List Int} {ks : List K01} {enc : K01 → AV} (h : Q02 (List.map enc ks) = List.map K0h ks) : share (AV.agg [I op,I N,oI ty,oM enc ks]) = K0h (K01.mk op N ty ks) :=
 (show share (AV.agg [I op,I N,oI ty,oM enc ks]) = AV.agg [I op,I N,.sl (Q02 (List.map I ty)),.sl (Q02 (List.map enc ks))] from rfl).trans ((by rw [h,Qex] : AV.agg [I op,I N,.sl (Q02 (List.map I ty)),.sl (Q02 (List.map enc ks))] = AV.agg [I op,I N,sI ty,sM K0h ks]).trans (K0o (K01.mk op N ty ks)).symm)
theorem Kih (u : K01) : K01.mk u.fOp u.fN u.fType u.fKids = u := by cases u; rfl
end Go.Am
