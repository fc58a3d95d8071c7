/- Walks, printed. -/
import Derived.Test.YtckgdfakjjdodaaGreatGFIMF4
set_option linter.unusedVariables false
set_option linter.unusedSimpArgs false
set_option maxRecDepth 100000
namespace Go.Am
open Go Go.Proofs
def Kh3 : Option (List (List Nat)) := rx [[0],[1],[0],[0],[0],[0],[2,5],[0],[0,7],[9],[10],[11],[12]]
def Kh4 : Option (List (List Nat)) := rx [[0],[1],[2],[3],[3],[3],[3],[3,4,5,6],[3],[9],[10],[11]]
def Kh5 : Option (List (List Nat)) := rx [[0],[0],[0],[0,2],[4],[5]]
def Kh6 : Option (List (List Nat)) := rx [[0],[0],[0],[0],[0],[0,2,3,4],[0],[0],[0],[0,2,3,4,5,6,7,8],[0,1,2,3,4,5,6,7,8,9],[11],[12]]
def Kh7 : Option (List (List Nat)) := rx [[0],[0],[0],[0],[0],[0,2,3,4],[6],[7]]
mutual
def Kh8 (p : K02 × K00 × LL × (List Int) × Int) : Option (K01 × K02) :=
 match p with
 | (c0,s1,ctx2,ty3,deep4) =>
  (Ka7 (c0,5)) >>= fun (a0,a1) =>
  ((
   if (decide (a0 > 1)) = true then
   (Ka7 (a1,(ctx2.length : Int))) >>= fun (a2,a3) =>
   (Kh0 (c0,s1,ctx2,ty3,deep4,a2,a3,0)) >>= fun fl => match fl with
   | .inl () =>
    some (.inl (a3.fb,a3.fi,a3.fh))
   | .inr r =>
    some (.inr r)
   else
   some (.inl (a1.fb,a1.fi,a1.fh))) : Option (((List Int) × Int × Int) ⊕ ((K01 × K02)))) >>= fun fl => match fl with
  | .inl (a4,a5,a6) =>
   ((
   if (decide (deep4 > 0)) = true then
    (Kaa ((K02.mk a4 a5 a6),3)) >>= fun (a7,a8) =>
    some ((a8.fb,a8.fi,a8.fh,a7))
   else
    some ((a4,a5,a6,false))
   ) : Option ((List Int) × Int × Int × Bool)) >>= fun (a9,b1,b2,b3) =>
   if b3 = true then
   (Khb ((K02.mk a9 b1 b2),s1,ctx2,ty3,(wr (deep4 - 1)))) >>= fun (b4,b5) =>
   some (b4,b5)
   else
   (idx ty3 0) >>= fun b6 =>
   ((
    if (b6 == 0) = true then
    if (decide (deep4 > 0)) = true then
    (Kaa ((K02.mk a9 b1 b2),2)) >>= fun (b7,b8) =>
    some ((b8.fb,b8.fi,b8.fh,b7))
    else
    some ((a9,b1,b2,false))
    else
    some ((a9,b1,b2,false))
   ) : Option ((List Int) × Int × Int × Bool)) >>= fun (b9,c1,c2,c3) =>
   if c3 = true then
    (Kh8 ((K02.mk b9 c1 c2),s1,ctx2,ty3,(wr (deep4 - 1)))) >>= fun (c4,c5) =>
    (Kh8 (c5,s1,ctx2,ty3,(wr (deep4 - 1)))) >>= fun (c6,c7) =>
    (Kea (2,0,[c4,c6])) >>= fun c8 =>
    some (c8,c7)
   else
    if (b6 == 0) = true then
    (Ka7 ((K02.mk b9 c1 c2),3)) >>= fun (c9,d0) =>
    (Kea (1,c9,[])) >>= fun d1 =>
    some (d1,d0)
    else
    if (b6 == 1) = true then
    (Kew (ty3,0)) >>= fun d2 =>
    (Kh8 ((K02.mk b9 c1 c2),s1,ctx2,d2,(wr (deep4 - 1)))) >>= fun (d3,d4) =>
    (Kew (ty3,1)) >>= fun d5 =>
    (Kh8 (d4,s1,ctx2,d5,(wr (deep4 - 1)))) >>= fun (d6,d7) =>
    (Kea (4,0,[d3,d6])) >>= fun d8 =>
    some (d8,d7)
    else
    ((
    if (b6 == 2) = true then
    (Kaa ((K02.mk b9 c1 c2),2)) >>= fun (d9,e0) =>
    some ((e0.fb,e0.fi,e0.fh,d9))
    else
    some ((b9,c1,c2,false))
    ) : Option ((List Int) × Int × Int × Bool)) >>= fun (e1,e2,e3,e4) =>
    if e4 = true then
    (Kew (ty3,1)) >>= fun e5 =>
    (Kew (ty3,0)) >>= fun e6 =>
    (Kh8 ((K02.mk e1 e2 e3),s1,ctx2,e6,(wr (deep4 - 1)))) >>= fun (e7,e8) =>
    some ((K01.mk 6 0 e5 [e7]),e8)
    else
    if (b6 == 2) = true then
    (Kew (ty3,0)) >>= fun e9 =>
    (Kew (ty3,1)) >>= fun f0 =>
    (Kh8 ((K02.mk e1 e2 e3),s1,ctx2,f0,(wr (deep4 - 1)))) >>= fun (f1,f2) =>
    some ((K01.mk 7 0 e9 [f1]),f2)
    else
    (Keg b6) >>= fun f3 =>
    if f3 = true then
    (Kez b6) >>= fun f4 =>
    (Kew (ty3,0)) >>= fun f5 =>
    (Kh8 ((K02.mk e1 e2 e3),s1,ctx2,f5,(wr (deep4 - 1)))) >>= fun (f6,f7) =>
    (Kea (11,f4,[f6])) >>= fun f8 =>
    some (f8,f7)
    else
    (Kh9 ((K02.mk e1 e2 e3),s1,ctx2,ty3,deep4)) >>= fun (f9,g0) =>
    some (f9,g0)
  | .inr r =>
   some r
 partial_fixpoint
def Kh9 (p : K02 × K00 × LL × (List Int) × Int) : Option (K01 × K02) :=
 match p with
 | (c0,s1,ctx2,ty3,deep4) =>
  (Kew (ty3,0)) >>= fun a0 =>
  (Kew (ty3,1)) >>= fun a1 =>
  (idx ty3 0) >>= fun a2 =>
  (Kez a2) >>= fun a3 =>
  (Kf2 (ctx2,[a0])) >>= fun a4 =>
  (Kh8 (c0,s1,a4,a1,(wr (deep4 - 1)))) >>= fun (a5,a6) =>
  (Kha (s1,deep4,a0,a1,a3,a4,a6.fb,a6.fi,a6.fh,a5.fOp,a5.fN,a5.fType,a5.fKids,0)) >>= fun (a7,a8,a9,b1,b2,b3,b4) =>
  some ((K01.mk 9 a3 a0 [(K01.mk a7 a8 a9 b1)]),(K02.mk b2 b3 b4))
 partial_fixpoint
def Kha (p : K00 × Int × (List Int) × (List Int) × Int × LL × (List Int) × Int × Int × Int × Int × (List Int) × (List K01) × Int) : Option (Int × Int × (List Int) × (List K01) × (List Int) × Int × Int) :=
 match p with
 | (s1,deep4,a0,a1,a2,a3,a4,a5,a6,a7,a8,a9,b1,b2) =>
  ((
  if (decide (b2 < 3)) = true then
  (Kgb (s1,a3,(K01.mk a7 a8 a9 b1),0)) >>= fun b3 =>
  (Kbs (s1,b3,a2)) >>= fun b4 =>
  some ((!b4))
  else
  some (false)
  ) : Option (Bool)) >>= fun b5 =>
  if b5 = true then
  (Kh8 ((K02.mk a4 a5 a6),s1,a3,a1,(wr (deep4 - 1)))) >>= fun (b6,b7) =>
  ((
  if (b2 == 1) = true then
  (Ke7 (a0,a1)) >>= fun b8 =>
  some (b8)
  else
  some (false)
  ) : Option (Bool)) >>= fun b9 =>
  ((
  if b9 = true then
  (Kea (0,0,[])) >>= fun c0 =>
  some ((c0.fOp,c0.fN,c0.fType,c0.fKids))
  else
  some ((b6.fOp,b6.fN,b6.fType,b6.fKids))
  ) : Option (Int × Int × (List Int) × (List K01))) >>= fun (c1,c2,c3,c4) =>
  Kha (s1,deep4,a0,a1,a2,a3,b7.fb,b7.fi,b7.fh,c1,c2,c3,c4,(wr (b2 + 1)))
  else
  some ((a7,a8,a9,b1,a4,a5,a6))
 partial_fixpoint
def Khb (p : K02 × K00 × LL × (List Int) × Int) : Option (K01 × K02) :=
 match p with
 | (c0,s1,ctx2,ty3,deep4) =>
  (Ka7 (c0,6)) >>= fun (a0,a1) =>
  if (a0 == 0) = true then
  (Kh8 (a1,s1,ctx2,[0],deep4)) >>= fun (a2,a3) =>
  (Kh8 (a3,s1,ctx2,ty3,deep4)) >>= fun (a4,a5) =>
  (Kh8 (a5,s1,ctx2,ty3,deep4)) >>= fun (a6,a7) =>
  (Kea (3,0,[a2,a4,a6])) >>= fun a8 =>
  some (a8,a7)
  else
  if (a0 == 1) = true then
  (Kaa (a1,2)) >>= fun (a9,b1) =>
  (Kdt (b1,s1,1,a9)) >>= fun (b2,b3) =>
  (Kdt (b3,s1,1,true)) >>= fun (b4,b5) =>
  (Kf2 (ctx2,[b4,b2])) >>= fun b6 =>
  (Kh8 (b5,s1,b6,ty3,deep4)) >>= fun (b7,b8) =>
  (Kgb (s1,b6,b7,0)) >>= fun b9 =>
  (Kgb (s1,b6,b7,1)) >>= fun c1 =>
  (Kc6 (s1,b9,c1)) >>= fun c2 =>
  (Kc6 (s1,1,c2)) >>= fun c3 =>
  (Kgi (b8,s1,c3)) >>= fun (c4,c5) =>
  (Kdq (1,[b2,b4])) >>= fun c6 =>
  (Kh8 (c5,s1,ctx2,c6,deep4)) >>= fun (c7,c8) =>
  (Kea (5,c4,[c7,b7])) >>= fun c9 =>
  some (c9,c8)
  else
  if (a0 == 2) = true then
  (Kdt (a1,s1,1,true)) >>= fun (d0,d1) =>
  (Kdt (d1,s1,1,true)) >>= fun (d2,d3) =>
  (Kf2 (ctx2,[d0])) >>= fun d4 =>
  (Kf2 (ctx2,[d2])) >>= fun d5 =>
  (Kh8 (d3,s1,d4,ty3,deep4)) >>= fun (d6,d7) =>
  (Kh8 (d7,s1,d5,ty3,deep4)) >>= fun (d8,d9) =>
  (Kgb (s1,d4,d6,0)) >>= fun e0 =>
  (Kgb (s1,d5,d8,0)) >>= fun e1 =>
  (Kc6 (s1,e0,e1)) >>= fun e2 =>
  (Kc6 (s1,1,e2)) >>= fun e3 =>
  (Kgi (d9,s1,e3)) >>= fun (e4,e5) =>
  (Kdq (2,[d0,d2])) >>= fun e6 =>
  (Kh8 (e5,s1,ctx2,e6,deep4)) >>= fun (e7,e8) =>
  (Kea (8,e4,[e7,d6,d8])) >>= fun e9 =>
  some (e9,e8)
  else
  if (a0 == 3) = true then
  (Kaa (a1,2)) >>= fun (f0,f1) =>
  (Kdt (f1,s1,1,f0)) >>= fun (f2,f3) =>
  (Kf2 (ctx2,[f2])) >>= fun f4 =>
  (Kh8 (f3,s1,f4,ty3,deep4)) >>= fun (f5,f6) =>
  (Kgb (s1,f4,f5,0)) >>= fun f7 =>
  (Kgi (f6,s1,f7)) >>= fun (f8,f9) =>
  (Kdq ((wr (19 + f8)),[f2])) >>= fun g0 =>
  (Kh8 (f9,s1,ctx2,g0,deep4)) >>= fun (g1,g2) =>
  (Kea (12,1,[g1,f5])) >>= fun g3 =>
  some (g3,g2)
  else
  (Kaa (a1,2)) >>= fun (g4,g5) =>
  (Kdt (g5,s1,2,g4)) >>= fun (g6,g7) =>
  (Kf2 (ctx2,[g6])) >>= fun g8 =>
  (Kh8 (g7,s1,g8,ty3,deep4)) >>= fun (g9,i0) =>
  (Kgb (s1,g8,g9,0)) >>= fun i1 =>
  (Kgi (i0,s1,i1)) >>= fun (i2,i3) =>
  (Kaa (i3,4)) >>= fun (i4,i5) =>
  ((
   if i4 = true then
   (Kdq ((wr (3 + i2)),[g6,ty3])) >>= fun i6 =>
   if (decide ((i6.length : Int) < 12)) = true then
   (Kea (0,0,[])) >>= fun i7 =>
   (Kh8 (i5,s1,ctx2,g6,(wr (deep4 - 1)))) >>= fun (i8,i9) =>
   (Kgp (i8,1,0)) >>= fun j0 =>
   (Kea (10,0,[i7,j0])) >>= fun j8 =>
   (Kea (10,0,[(K01.mk 9 1 i6 [j8]),(K01.mk 9 i2 g6 [g9])])) >>= fun j9 =>
   some (.inr (j9,i9))
   else
   some (.inl ())
   else
   some (.inl ())) : Option ((Unit) ⊕ ((K01 × K02)))) >>= fun fl => match fl with
  | .inl () =>
   (Kh8 (i5,s1,ctx2,g6,(wr (deep4 - 1)))) >>= fun (k0,k1) =>
   (Kea (10,0,[(K01.mk 9 i2 g6 [g9]),k0])) >>= fun k2 =>
   some (k2,k1)
  | .inr r =>
   some r
 partial_fixpoint
end
def Khc (p : K02 × K00 × LL × (List Int) × Int) (r : K01 × K02) : Prop :=
 match p with
 | (c0,s1,ctx2,ty3,deep4) => Q71 Tryz.prog 231 [.optr [.sl (List.map U8 c0.fb),I c0.fi,I c0.fh],K1w s1,sL ctx2,sI ty3,I deep4] (.agg [I r.1.fOp,I r.1.fN,.sl (List.map I r.1.fType),.sl (List.map K0h r.1.fKids)]) [.optr [.sl (List.map U8 r.2.fb),I r.2.fi,I r.2.fh],.undef,.undef,.undef,.undef]
def Khd (p : K02 × K00 × LL × (List Int) × Int) (r : K01 × K02) : Prop :=
 match p with
 | (c0,s1,ctx2,ty3,deep4) => Q71 Tryz.prog 252 [.optr [.sl (List.map U8 c0.fb),I c0.fi,I c0.fh],K1w s1,sL ctx2,sI ty3,I deep4] (.agg [I r.1.fOp,I r.1.fN,.sl (List.map I r.1.fType),.sl (List.map K0h r.1.fKids)]) [.optr [.sl (List.map U8 r.2.fb),I r.2.fi,I r.2.fh],.undef,.undef,.undef,.undef]
def Khe (p : K00 × Int × (List Int) × (List Int) × Int × LL × (List Int) × Int × Int × Int × Int × (List Int) × (List K01) × Int) (fl : Int × Int × (List Int) × (List K01) × (List Int) × Int × Int) : Prop :=
 match p with
 | (s1,deep4,a0,a1,a2,a3,a4,a5,a6,a7,a8,a9,b1,b2) => ∀ c : Ctx,c.nt = 70 → WpL Tryz.prog c (cl (cl (cr (cl (cr (cr (cr (cr (cr (cr K59)))))))))) (Kgz c a0 a2 fl) (mkS [(0,.ra 1000 0),(4,I deep4),(6,.ra 1 0),(10,.ra 2 0),(11,sI a0),(12,sI a1),(13,I a2),(14,sL a3),(15,.ra 8 0),(16,I b2)] [(1,K1v s1),(2,.box [I 0,I 0,.nils,.nils]),(8,.box [I a7,I a8,sI a9,.sl (List.map K0h b1)]),(1000,.box [.sl (List.map U8 a4),I a5,I a6])])
def Khf (p : K02 × K00 × LL × (List Int) × Int) (r : K01 × K02) : Prop :=
 match p with
 | (c0,s1,ctx2,ty3,deep4) => Q71 Tryz.prog 251 [.optr [.sl (List.map U8 c0.fb),I c0.fi,I c0.fh],K1w s1,sL ctx2,sI ty3,I deep4] (.agg [I r.1.fOp,I r.1.fN,.sl (List.map I r.1.fType),.sl (List.map K0h r.1.fKids)]) [.optr [.sl (List.map U8 r.2.fb),I r.2.fi,I r.2.fh],.undef,.undef,.undef,.undef]
theorem Khg : (∀ p r,Kh8 p = some r → Khc p r) ∧ (∀ p r,Kh9 p = some r → Khd p r) ∧ (∀ p r,Kha p = some r → Khe p r) ∧ (∀ p r,Khb p = some r → Khf p r) := by
 refine Kh8.mutual_partial_correctness Khc Khd Khe Khf ?_ ?_ ?_ ?_
 ·rintro spec_dOf_f spec_dFun_f spec_dAround_f spec_dOf_ih spec_dFun_ih spec_dAround_ih ⟨c0,s1,ctx2,ty3,deep4⟩ r h
  refine Q71.bodyO K34 (fn := Tryz.f231) (code := K4t) (by kernel_rfl) (by kernel_rfl) (by kernel_rfl) (nt := 167) (by kernel_rfl) (by kernel_rfl) (T := [(0,.ra 1000 0),(1,K1w s1),(2,sL ctx2),(3,sI ty3),(4,I deep4)]) (O := [(1000,K1z c0)]) (by kernel_rfl) (by kernel_rfl) (fun c hc => ?_)
  refine rs hc none [some (.new 1),some (.new 2)] [(0,.ra 1000 0),(2,sL ctx2),(3,sI ty3),(4,I deep4),(6,.ra 1 0),(10,.ra 2 0)] [(1,K1v s1),(2,.box [I 0,I 0,.nils,.nils]),(1000,K1z c0)] tv ?_
  refine sN ?_
  obtain ⟨⟨a0,a1⟩,a2,h⟩ := Qdd h
  refine rs hc none [oN,some (.call (I a0) [.optr [.sl (List.map U8 a1.fb),I a1.fi,I a1.fh],.undef] 1),oN] [(0,.ra 1000 0),(2,sL ctx2),(3,sI ty3),(4,I deep4),(6,.ra 1 0),(10,.ra 2 0),(17,.bool (decide (a0 > 1)))] [(1,K1v s1),(2,.box [I 0,I 0,.nils,.nils]),(1000,K1z a1)] (ab (Ka9 _ _ a2) K3d tv) ?_
  obtain ⟨fl,a3,h⟩ := Qdd h
  refine flw (Kgx c c0 s1 ctx2 ty3 deep4 fl) ?_ (fun hF => ?_)
  ·replace h := a3
   refine ic h (fun a4 h => ?_) fun a4 h => ?_
   ·obtain ⟨⟨a5,a6⟩,a7,h⟩ := Qdd h
    refine rs hc none [oN,oN,some (.eqv (.no) ⟨[(20,I (ctx2.length : Int))],[],[]⟩),some (.call (I a5) [.optr [.sl (List.map U8 a6.fb),I a6.fi,I a6.fh],.undef] 1),oN] [(0,.ra 1000 0),(2,sL ctx2),(3,sI ty3),(4,I deep4),(6,.ra 1 0),(10,.ra 2 0),(11,I a5)] [(1,K1v s1),(2,.box [I 0,I 0,.nils,.nils]),(1000,K1z a6)] (ac (Qdj (d := 20) K14 ctx2) (Ka9 _ _ a7) K3d tv) ?_
    refine K9m hc 1 [(0,.ra 1000 0),(2,sL ctx2),(3,sI ty3),(4,I deep4),(6,.ra 1 0),(10,.ra 2 0),(11,I a5),(12,I 0)] ?_
    refine bk 0 ?_
    obtain ⟨fl,a8,h⟩ := Qdd h
    have hL := Kh2 _ _ a8 c hc
    refine lp ?_
    rcases fl with ⟨⟩ | r
    ·refine WpL.into (e := (.exit 0)) (mkS [(0,.ra 1000 0),(2,sL ctx2),(3,sI ty3),(4,I deep4),(6,.ra 1 0),(10,.ra 2 0)] [(1,K1v s1),(2,.box [I 0,I 0,.nils,.nils]),(1000,K1z a6)]) hL ?_
     refine Qcr ?_
     obtain rfl := os h
     exact Qcz.mk
    refine WpL.mono hL ?_
    rintro _ _ ⟨rfl,hfin⟩
    obtain rfl := os h
    exact ⟨rfl,hfin⟩
   refine sk ?_
   obtain rfl := os h
   exact iv []
  rcases fl with ⟨a9,b1,b2⟩ | r
  ·refine Wp.into (x := .normal) (mkS [(0,.ra 1000 0),(2,sL ctx2),(3,sI ty3),(4,I deep4),(6,.ra 1 0),(10,.ra 2 0)] [(1,K1v s1),(2,.box [I 0,I 0,.nils,.nils]),(1000,.box [.sl (List.map U8 a9),I b1,I b2])]) hF ?_
   refine sN ?_
   refine sN ?_
   obtain ⟨⟨b3,b4,b5,b6⟩,b7,h⟩ := Qdd h
   refine Wp.into (x := .normal) (mkS [(0,.ra 1000 0),(2,sL ctx2),(3,sI ty3),(4,I deep4),(6,.ra 1 0),(10,.ra 2 0),(47,.bool b6)] [(1,K1v s1),(2,.box [I 0,I 0,.nils,.nils]),(1000,.box [.sl (List.map U8 b3),I b4,I b5])]) ?_ ?_
   ·replace h := b7
    rcases is h with ⟨b8,h⟩ | ⟨b8,h⟩
    ·obtain ⟨⟨b9,c1⟩,c2,h⟩ := Qdd h
     refine rg hc none [oN,oN,oN,oN,some (.call (.bool b9) [.optr [.sl (List.map U8 c1.fb),I c1.fi,I c1.fh],.undef] 1),oT] [(0,.ra 1000 0),(2,sL ctx2),(3,sI ty3),(4,I deep4),(6,.ra 1 0),(10,.ra 2 0),(47,.bool b9)] [(1,K1v s1),(2,.box [I 0,I 0,.nils,.nils]),(1000,K1z c1)] (ar 2 b8 (ac (Kac _ _ c2) K3e b8 tv)) ?_
     obtain ⟨rfl,hq0⟩ := Prod.mk.inj (Option.some.inj h)
     obtain ⟨rfl,hq1⟩ := Prod.mk.inj (hq0)
     obtain ⟨rfl,rfl⟩ := Prod.mk.inj (hq1)
     exact Qcz.mk
    refine rgs hc none [oN,oN,oN,o_,o_,oF] [(0,.ra 1000 0),(2,sL ctx2),(3,sI ty3),(4,I deep4),(6,.ra 1 0),(10,.ra 2 0),(47,.bool false)] (ar 2 (neT b8) (ai b8 tv)) ?_
    obtain ⟨rfl,hq0⟩ := Prod.mk.inj (Option.some.inj h)
    obtain ⟨rfl,hq1⟩ := Prod.mk.inj (hq0)
    obtain ⟨rfl,rfl⟩ := Prod.mk.inj (hq1)
    exact Qcz.mk
   clear b7
   refine ic h (fun c3 h => ?_) fun c3 h => ?_
   ·obtain ⟨⟨c4,c5⟩,c6,h⟩ := Qdd h
    refine rs hc none [oN,oN,oN,oN,oN,oN,some (.call (K1y c4) [.optr [.sl (List.map U8 c5.fb),I c5.fi,I c5.fh],.undef,.undef,.undef,.undef] 1),oN] [(10,.ra 2 0)] [(2,K1x c4),(1000,K1z c5)] (ab (spec_dAround_ih _ _ c6) K4s tv) ?_
    refine rt ?_
    obtain rfl := os h
    exact Qda.ret (fl := [false]) (by kernel_rfl)
   refine sk ?_
   obtain ⟨c7,c8,h⟩ := Qdd h
   refine rss hc none [oN,some (.el (I c7)),oN,oN] [(0,.ra 1000 0),(2,sL ctx2),(3,sI ty3),(4,I deep4),(6,.ra 1 0),(10,.ra 2 0),(14,I c7)] (ai (ix c8) tv) ?_
   refine sN ?_
   refine bk 2 ?_
   refine sN ?_
   obtain ⟨⟨c9,d0,d1,d2⟩,d3,h⟩ := Qdd h
   refine Wp.into (x := .normal) (mkS [(0,.ra 1000 0),(2,sL ctx2),(3,sI ty3),(4,I deep4),(6,.ra 1 0),(10,.ra 2 0),(14,I c7),(58,.bool d2)] [(1,K1v s1),(2,.box [I 0,I 0,.nils,.nils]),(1000,.box [.sl (List.map U8 c9),I d0,I d1])]) ?_ ?_
   ·replace h := d3
    rcases is h with ⟨d4,h⟩ | ⟨d4,h⟩
    ·rcases is h with ⟨d5,h⟩ | ⟨d5,h⟩
     ·obtain ⟨⟨d6,d7⟩,d8,h⟩ := Qdd h
      refine rg hc none [oN,oN,oN,oN,oN,oT,oN,oN,some (.call (.bool d6) [.optr [.sl (List.map U8 d7.fb),I d7.fi,I d7.fh],.undef] 1),oT,oN] [(0,.ra 1000 0),(2,sL ctx2),(3,sI ty3),(4,I deep4),(6,.ra 1 0),(10,.ra 2 0),(14,I c7),(58,.bool d6)] [(1,K1v s1),(2,.box [I 0,I 0,.nils,.nils]),(1000,K1z d7)] (ar 3 d4 (ar 2 d5 (ac (Kac _ _ d8) K3e d5 tv))) ?_
      obtain ⟨rfl,hq0⟩ := Prod.mk.inj (Option.some.inj h)
      obtain ⟨rfl,hq1⟩ := Prod.mk.inj (hq0)
      obtain ⟨rfl,rfl⟩ := Prod.mk.inj (hq1)
      exact Qcz.mk
     refine rgs hc none [oN,oN,oN,oN,oN,oT,oN,o_,o_,oF,oN] [(0,.ra 1000 0),(2,sL ctx2),(3,sI ty3),(4,I deep4),(6,.ra 1 0),(10,.ra 2 0),(14,I c7),(58,.bool false)] (ar 3 d4 (ar 2 (neT d5) (ai d5 tv))) ?_
     obtain ⟨rfl,hq0⟩ := Prod.mk.inj (Option.some.inj h)
     obtain ⟨rfl,hq1⟩ := Prod.mk.inj (hq0)
     obtain ⟨rfl,rfl⟩ := Prod.mk.inj (hq1)
     exact Qcz.mk
    refine rgs hc none [oN,oN,oN,o_,o_,oF,oN,o_,o_,oF,oN] [(0,.ra 1000 0),(2,sL ctx2),(3,sI ty3),(4,I deep4),(6,.ra 1 0),(10,.ra 2 0),(14,I c7),(58,.bool false)] (ar 2 (neT d4) (ai d4 (ar 2 (neT (rfl : false = false)) (ai (rfl : false = false) tv)))) ?_
    obtain ⟨rfl,hq0⟩ := Prod.mk.inj (Option.some.inj h)
    obtain ⟨rfl,hq1⟩ := Prod.mk.inj (hq0)
    obtain ⟨rfl,rfl⟩ := Prod.mk.inj (hq1)
    exact Qcz.mk
   clear d3
   refine ic h (fun d9 h => ?_) fun d9 h => ?_
   ·obtain ⟨⟨e0,e1⟩,e2,h⟩ := Qdd h
    obtain ⟨⟨e3,e4⟩,e5,h⟩ := Qdd h
    obtain ⟨e6,e7,h⟩ := Qdd h
    refine rs hc (rx [[0],[0],[0],[0],[0],[0,4],[6],[0],[0],[0],[0],[0],[0,11],[13],[14],[15],[16]]) [oN,oN,oN,oN,oN,oN,some (.call (K1y e0) [.optr [.sl (List.map U8 e1.fb),I e1.fi,I e1.fh],.undef,.undef,.undef,.undef] 1),oN,oN,oN,oN,oN,oN,some (.call (K1y e3) [.optr [.sl (List.map U8 e4.fb),I e4.fi,I e4.fh],.undef,.undef,.undef,.undef] 1),some (.eqv (.mk 3 false) ⟨[(83,.rs 3)],[(3,some (.arr (List.map K0h [e0,e3])))],[3]⟩),some (.call (K1y e6) [.tup []] 1),oN] [(10,.ra 2 0)] [(2,K1x e6),(1000,K1z e4)] (ad (spec_dOf_ih _ _ e2) K4u (spec_dOf_ih _ _ e5) K4u (ac (congrArg (fun z => (⟨[(83,.rs 3)],[(3,some (.arr z))],[3]⟩ : Wr)) ((Qek (K0o e0) (Qek (K0o e3) Qej)) : [K1y e0,K1y e3] = List.map K0h [e0,e3])) (Q71.args (A1 := [I 2,I 0,.sl (Q02 (List.map K0h [e0,e3]))]) (A2 := [I 2,I 0,.sl (List.map K0h [e0,e3])]) (by simp only [List.map_nil,K1d]) (Kec _ _ e7)) K4q tv)) ?_
    refine rt ?_
    obtain rfl := os h
    exact Qda.ret (fl := [false]) (by kernel_rfl)
   refine K9m hc 3 [(0,.ra 1000 0),(2,sL ctx2),(3,sI ty3),(4,I deep4),(6,.ra 1 0),(10,.ra 2 0),(14,I c7),(85,.bool (c7 == 0))] ?_
   refine ic h (fun e8 h => ?_) fun e8 h => ?_
   ·obtain ⟨⟨e9,f0⟩,f1,h⟩ := Qdd h
    obtain ⟨f2,f3,h⟩ := Qdd h
    refine rs hc none [oN,some (.call (I e9) [.optr [.sl (List.map U8 f0.fb),I f0.fi,I f0.fh],.undef] 1),oc (K1y f2),oN] [(10,.ra 2 0)] [(2,K1x f2),(1000,K1z f0)] (ab (Ka9 _ _ f1) K3d (cq (Q71.args (A1 := [I 1,I e9,.sl []]) (A2 := [I 1,I e9,.sl (List.map K0h [])]) (by simp only [List.map_nil]) (Kec _ _ f3)) K4q tv)) ?_
    refine rt ?_
    obtain rfl := os h
    exact Qda.ret (fl := [false]) (by kernel_rfl)
   refine K9m hc 3 [(0,.ra 1000 0),(2,sL ctx2),(3,sI ty3),(4,I deep4),(6,.ra 1 0),(10,.ra 2 0),(14,I c7),(91,.bool (c7 == 1))] ?_
   refine ic h (fun f4 h => ?_) fun f4 h => ?_
   ·obtain ⟨f5,f6,⟨f7,f8⟩,f9,h⟩ := bq2 h
    obtain ⟨g0,g1,⟨g2,g3⟩,g4,h⟩ := bq2 h
    obtain ⟨g5,g6,h⟩ := Qdd h
    refine rs hc (rx [[0],[0],[0],[0],[0,3],[0],[0,5],[7],[0],[0],[0],[0],[8,11],[0],[0,13],[15],[16],[17],[18]]) [oN,oN,oN,oN,oc (sI f5),oN,oN,some (.call (K1y f7) [.optr [.sl (List.map U8 f8.fb),I f8.fi,I f8.fh],.undef,.undef,.undef,.undef] 1),oN,oN,oN,oN,oc (sI g0),oN,oN,some (.call (K1y g2) [.optr [.sl (List.map U8 g3.fb),I g3.fi,I g3.fh],.undef,.undef,.undef,.undef] 1),some (.eqv (.mk 6 false) ⟨[(110,.rs 6)],[(6,some (.arr (List.map K0h [f7,g2])))],[6]⟩),some (.call (K1y g5) [.tup []] 1),oN] [(10,.ra 2 0)] [(2,K1x g5),(1000,K1z g3)] (cq (Q71.res (r2 := sI f5) (by simp only [share,Q02,Qe5]) (Q71.shr (Key _ _ f6))) K56 (ab (spec_dOf_ih _ _ f9) K4u (cq (Q71.res (r2 := sI g0) (by simp only [share,Q02,Qe5]) (Q71.shr (Key _ _ g1))) K56 (ad (spec_dOf_ih _ _ g4) K4u (congrArg (fun z => (⟨[(110,.rs 6)],[(6,some (.arr z))],[6]⟩ : Wr)) ((Qek (K0o f7) (Qek (K0o g2) Qej)) : [K1y f7,K1y g2] = List.map K0h [f7,g2])) (Q71.args (A1 := [I 4,I 0,.sl (Q02 (List.map K0h [f7,g2]))]) (A2 := [I 4,I 0,.sl (List.map K0h [f7,g2])]) (by simp only [List.map_nil,K1d]) (Kec _ _ g6)) (ai K4q tv))))) ?_
    refine rt ?_
    obtain rfl := os h
    exact Qda.ret (fl := [false]) (by kernel_rfl)
   refine sN ?_
   obtain ⟨⟨g7,g8,g9,i0⟩,i1,h⟩ := Qdd h
   refine Wp.into (x := .normal) (mkS [(0,.ra 1000 0),(2,sL ctx2),(3,sI ty3),(4,I deep4),(6,.ra 1 0),(10,.ra 2 0),(14,I c7),(112,.bool i0)] [(1,K1v s1),(2,.box [I 0,I 0,.nils,.nils]),(1000,.box [.sl (List.map U8 g7),I g8,I g9])]) ?_ ?_
   ·replace h := i1
    rcases is h with ⟨i2,h⟩ | ⟨i2,h⟩
    ·obtain ⟨⟨i3,i4⟩,i5,h⟩ := Qdd h
     refine rg hc none [oN,oN,oN,oN,some (.call (.bool i3) [.optr [.sl (List.map U8 i4.fb),I i4.fi,I i4.fh],.undef] 1),oT,oN] [(0,.ra 1000 0),(2,sL ctx2),(3,sI ty3),(4,I deep4),(6,.ra 1 0),(10,.ra 2 0),(14,I c7),(112,.bool i3)] [(1,K1v s1),(2,.box [I 0,I 0,.nils,.nils]),(1000,K1z i4)] (ar 2 i2 (ac (Kac _ _ i5) K3e i2 tv)) ?_
     obtain ⟨rfl,hq0⟩ := Prod.mk.inj (Option.some.inj h)
     obtain ⟨rfl,hq1⟩ := Prod.mk.inj (hq0)
     obtain ⟨rfl,rfl⟩ := Prod.mk.inj (hq1)
     exact Qcz.mk
    refine rgs hc none [oN,oN,oN,o_,o_,oF,oN] [(0,.ra 1000 0),(2,sL ctx2),(3,sI ty3),(4,I deep4),(6,.ra 1 0),(10,.ra 2 0),(14,I c7),(112,.bool false)] (ar 2 (neT i2) (ai i2 tv)) ?_
    obtain ⟨rfl,hq0⟩ := Prod.mk.inj (Option.some.inj h)
    obtain ⟨rfl,hq1⟩ := Prod.mk.inj (hq0)
    obtain ⟨rfl,rfl⟩ := Prod.mk.inj (hq1)
    exact Qcz.mk
   clear i1
   refine ic h (fun i6 h => ?_) fun i6 h => ?_
   ·obtain ⟨i7,i8,i9,j0,⟨j8,j9⟩,k0,h⟩ := bq3 h
    refine rs hc Kh3 [oN,some (.call (oI i7) [] 9),oN,oN,oN,oN,oc (sI i9),oN,oN,some (.call (K1y j8) [.optr [.sl (List.map U8 j9.fb),I j9.fi,I j9.fh],.undef,.undef,.undef,.undef] 1),some (.eqv (.mk 10 false) ⟨[(129,.rs 10)],[(10,some (.arr (List.map K0h [j8])))],[10]⟩),oN,oN] [(10,.ra 2 0)] [(2,.box [I 6,I 0,.rs 9,.rs 10]),(9,rI i7),(10,.arr (List.map K0h [j8])),(1000,K1z j9)] (cq (Key _ _ i8) K56 (cq (Q71.res (r2 := sI i9) (by simp only [share,Q02,Qe5]) (Q71.shr (Key _ _ j0))) K56 (ac (spec_dOf_ih _ _ k0) K4u (congrArg (fun z => (⟨[(129,.rs 10)],[(10,some (.arr z))],[10]⟩ : Wr)) ((Qek (K0o j8) Qej) : [K1y j8] = List.map K0h [j8])) tv))) ?_
    refine vz 9 (Qe5 i7) [(10,.ra 2 0)] [(2,.box [I 6,I 0,sI i7,.rs 10]),(10,.arr (List.map K0h [j8])),(1000,K1z j9)] ?_
    refine vz 10 (K1d [j8]) [(10,.ra 2 0)] [(2,.box [I 6,I 0,sI i7,.sl (List.map K0h [j8])]),(1000,K1z j9)] ?_
    refine rt ?_
    obtain rfl := os h
    exact Qda.ret (fl := [false]) (by kernel_rfl)
   refine K9m hc 3 [(0,.ra 1000 0),(2,sL ctx2),(3,sI ty3),(4,I deep4),(6,.ra 1 0),(10,.ra 2 0),(14,I c7),(131,.bool (c7 == 2))] ?_
   refine ic h (fun k1 h => ?_) fun k1 h => ?_
   ·obtain ⟨k2,k3,k4,k5,⟨k6,k7⟩,k8,h⟩ := bq3 h
    refine rs hc Kh3 [oN,some (.call (oI k2) [] 13),oN,oN,oN,oN,oc (sI k4),oN,oN,some (.call (K1y k6) [.optr [.sl (List.map U8 k7.fb),I k7.fi,I k7.fh],.undef,.undef,.undef,.undef] 1),some (.eqv (.mk 14 false) ⟨[(144,.rs 14)],[(14,some (.arr (List.map K0h [k6])))],[14]⟩),oN,oN] [(10,.ra 2 0)] [(2,.box [I 7,I 0,.rs 13,.rs 14]),(13,rI k2),(14,.arr (List.map K0h [k6])),(1000,K1z k7)] (cq (Key _ _ k3) K56 (cq (Q71.res (r2 := sI k4) (by simp only [share,Q02,Qe5]) (Q71.shr (Key _ _ k5))) K56 (ac (spec_dOf_ih _ _ k8) K4u (congrArg (fun z => (⟨[(144,.rs 14)],[(14,some (.arr z))],[14]⟩ : Wr)) ((Qek (K0o k6) Qej) : [K1y k6] = List.map K0h [k6])) tv))) ?_
    refine vz 13 (Qe5 k2) [(10,.ra 2 0)] [(2,.box [I 7,I 0,sI k2,.rs 14]),(14,.arr (List.map K0h [k6])),(1000,K1z k7)] ?_
    refine vz 14 (K1d [k6]) [(10,.ra 2 0)] [(2,.box [I 7,I 0,sI k2,.sl (List.map K0h [k6])]),(1000,K1z k7)] ?_
    refine rt ?_
    obtain rfl := os h
    exact Qda.ret (fl := [false]) (by kernel_rfl)
   obtain ⟨k9,l0,h⟩ := Qdd h
   refine rss hc none [oN,oc (.bool k9),oN] [(0,.ra 1000 0),(2,sL ctx2),(3,sI ty3),(4,I deep4),(6,.ra 1 0),(10,.ra 2 0),(14,I c7),(146,.bool k9)] (cq (Kei _ _ l0) K4y tv) ?_
   refine ic h (fun l1 h => ?_) fun l1 h => ?_
   ·obtain ⟨l2,l3,l4,l5,⟨l6,l7⟩,l8,h⟩ := bq3 h
    obtain ⟨l9,m0,h⟩ := Qdd h
    refine rs hc Kh3 [oN,oc (I l2),oN,oN,oN,oN,oc (sI l4),oN,oN,some (.call (K1y l6) [.optr [.sl (List.map U8 l7.fb),I l7.fi,I l7.fh],.undef,.undef,.undef,.undef] 1),some (.eqv (.mk 16 false) ⟨[(159,.rs 16)],[(16,some (.arr (List.map K0h [l6])))],[16]⟩),some (.call (K1y l9) [.tup []] 1),oN] [(10,.ra 2 0)] [(2,K1x l9),(1000,K1z l7)] (cq (Kf1 _ _ l3) K58 (cq (Q71.res (r2 := sI l4) (by simp only [share,Q02,Qe5]) (Q71.shr (Key _ _ l5))) K56 (ad (spec_dOf_ih _ _ l8) K4u (congrArg (fun z => (⟨[(159,.rs 16)],[(16,some (.arr z))],[16]⟩ : Wr)) ((Qek (K0o l6) Qej) : [K1y l6] = List.map K0h [l6])) (Q71.args (A1 := [I 11,I l2,.sl (Q02 (List.map K0h [l6]))]) (A2 := [I 11,I l2,.sl (List.map K0h [l6])]) (by simp only [List.map_nil,K1d]) (Kec _ _ m0)) (ai K4q tv)))) ?_
    refine rt ?_
    obtain rfl := os h
    exact Qda.ret (fl := [false]) (by kernel_rfl)
   refine sk ?_
   obtain ⟨⟨m1,m2⟩,m3,h⟩ := Qdd h
   refine rs hc none [oN,oN,oN,oN,oN,some (.call (K1y m1) [.optr [.sl (List.map U8 m2.fb),I m2.fi,I m2.fh],.undef,.undef,.undef,.undef] 1),oN] [(10,.ra 2 0)] [(2,K1x m1),(1000,K1z m2)] (ab (spec_dFun_ih _ _ m3) K5a tv) ?_
   refine rt ?_
   obtain rfl := os h
   exact Qda.ret (fl := [false]) (by kernel_rfl)
  refine Wp.mono hF ?_
  rintro _ _ ⟨rfl,hfin⟩
  obtain rfl := os h
  exact ⟨.inl rfl,hfin⟩
 ·rintro spec_dOf_f spec_dFun_l0_f spec_dOf_ih spec_dFun_l0_ih ⟨c0,s1,ctx2,ty3,deep4⟩ r h
  refine Q71.bodyO K34 (fn := Tryz.f252) (code := K59) (by kernel_rfl) (by kernel_rfl) (by kernel_rfl) (nt := 70) (by kernel_rfl) (by kernel_rfl) (T := [(0,.ra 1000 0),(1,K1w s1),(2,sL ctx2),(3,sI ty3),(4,I deep4)]) (O := [(1000,K1z c0)]) (by kernel_rfl) (by kernel_rfl) (fun c hc => ?_)
  refine rs hc none [some (.new 1),some (.new 2)] [(0,.ra 1000 0),(2,sL ctx2),(3,sI ty3),(4,I deep4),(6,.ra 1 0),(10,.ra 2 0)] [(1,K1v s1),(2,.box [I 0,I 0,.nils,.nils]),(1000,K1z c0)] tv ?_
  obtain ⟨a0,a2,h⟩ := Qdd h
  refine rs hc none [oN,some (.call (oI a0) [] 3),oN] [(0,.ra 1000 0),(2,sL ctx2),(3,sI ty3),(4,I deep4),(6,.ra 1 0),(10,.ra 2 0),(11,.rs 3)] [(1,K1v s1),(2,.box [I 0,I 0,.nils,.nils]),(3,rI a0),(1000,K1z c0)] (cq (Key _ _ a2) K56 tv) ?_
  obtain ⟨m4,m5,h⟩ := Qdd h
  refine rs hc none [oN,some (.call (oI m4) [] 4),oN] [(0,.ra 1000 0),(2,sL ctx2),(3,sI ty3),(4,I deep4),(6,.ra 1 0),(10,.ra 2 0),(11,.rs 3),(12,.rs 4)] [(1,K1v s1),(2,.box [I 0,I 0,.nils,.nils]),(3,rI a0),(4,rI m4),(1000,K1z c0)] (cq (Key _ _ m5) K56 tv) ?_
  obtain ⟨m6,m7,m8,m9,h⟩ := bq2 h
  refine rss hc none [oN,some (.el (I m6)),oN,oc (I m8),oN] [(0,.ra 1000 0),(2,sL ctx2),(4,I deep4),(6,.ra 1 0),(10,.ra 2 0),(11,.rs 3),(12,.rs 4),(13,I m8)] (ai (ix m7) (cq (Kf1 _ _ m9) K58 tv)) ?_
  refine sN ?_
  refine vz 3 (Qe5 a0) [(0,.ra 1000 0),(2,sL ctx2),(4,I deep4),(6,.ra 1 0),(10,.ra 2 0),(11,sI a0),(12,.rs 4),(13,I m8)] [(1,K1v s1),(2,.box [I 0,I 0,.nils,.nils]),(4,rI m4),(1000,K1z c0)] ?_
  obtain ⟨n0,n1,h⟩ := Qdd h
  refine rg hc none [oN,oN,some (.mk 6 false),some (.call (.osl (List.map K14 n0)) [.tup []] 7),oN] [(0,.ra 1000 0),(4,I deep4),(6,.ra 1 0),(10,.ra 2 0),(11,sI a0),(12,.rs 4),(13,I m8),(14,.rs 7)] [(1,K1v s1),(2,.box [I 0,I 0,.nils,.nils]),(4,rI m4),(7,.arr (List.map K14 n0)),(1000,K1z c0)] (ab (Q71.args (A1 := [sL ctx2,.sl (Q02 (List.map K14 [a0]))]) (A2 := [sL ctx2,.sl (List.map K14 [a0])]) (by simp only [List.map_nil,K18]) (Kf4 _ _ n1)) K5c tv) ?_
  refine sN ?_
  refine vz 7 (K18 n0) [(0,.ra 1000 0),(4,I deep4),(6,.ra 1 0),(10,.ra 2 0),(11,sI a0),(12,.rs 4),(13,I m8),(14,sL n0)] [(1,K1v s1),(2,.box [I 0,I 0,.nils,.nils]),(4,rI m4),(1000,K1z c0)] ?_
  refine vz 4 (Qe5 m4) [(0,.ra 1000 0),(4,I deep4),(6,.ra 1 0),(10,.ra 2 0),(11,sI a0),(12,sI m4),(13,I m8),(14,sL n0)] [(1,K1v s1),(2,.box [I 0,I 0,.nils,.nils]),(1000,K1z c0)] ?_
  obtain ⟨⟨n2,n3⟩,n4,h⟩ := Qdd h
  refine rg hc none [oN,oN,oN,oN,oN,oN,some (.call (K1y n2) [.optr [.sl (List.map U8 n3.fb),I n3.fi,I n3.fh],.undef,.undef,.undef,.undef] 1),some (.new 8),oN] [(0,.ra 1000 0),(4,I deep4),(6,.ra 1 0),(10,.ra 2 0),(11,sI a0),(12,sI m4),(13,I m8),(14,sL n0),(15,.ra 8 0)] [(1,K1v s1),(2,.box [I 0,I 0,.nils,.nils]),(8,K1x n2),(1000,K1z n3)] (ab (spec_dOf_ih _ _ n4) K4u tv) ?_
  refine sN ?_
  refine K9m hc 1 [(0,.ra 1000 0),(4,I deep4),(6,.ra 1 0),(10,.ra 2 0),(11,sI a0),(12,sI m4),(13,I m8),(14,sL n0),(15,.ra 8 0),(16,I 0)] ?_
  refine bk 0 ?_
  obtain ⟨⟨n5,n6,n7,n8,n9,o0,o1⟩,o2,h⟩ := Qdd h
  have hL := spec_dFun_l0_ih _ _ o2 c hc
  refine lp ?_
  refine WpL.into (e := (.exit 0)) (mkS [(10,.ra 2 0),(11,sI a0),(13,I m8),(15,.ra 8 0)] [(2,.box [I 0,I 0,.nils,.nils]),(8,.box [I n5,I n6,sI n7,.sl (List.map K0h n8)]),(1000,.box [.sl (List.map U8 n9),I o0,I o1])]) hL ?_
  refine Qcr ?_
  refine rs hc none [oN,oN,oN,some (.eqv (.mk 9 false) ⟨[(68,.rs 9)],[(9,some (.arr (List.map K0h [(K01.mk n5 n6 n7 n8)])))],[9]⟩),oN,oN] [(10,.ra 2 0)] [(2,.box [I 9,I m8,sI a0,.rs 9]),(9,.arr (List.map K0h [(K01.mk n5 n6 n7 n8)])),(1000,.box [.sl (List.map U8 n9),I o0,I o1])] (ai (congrArg (fun z => (⟨[(68,.rs 9)],[(9,some (.arr z))],[9]⟩ : Wr)) ((Qek (K0o (K01.mk n5 n6 n7 n8)) Qej) : [AV.agg [I n5,I n6,sI n7,.sl (List.map K0h n8)]] = List.map K0h [(K01.mk n5 n6 n7 n8)])) tv) ?_
  refine vz 9 (K1d [(K01.mk n5 n6 n7 n8)]) [(10,.ra 2 0)] [(2,.box [I 9,I m8,sI a0,.sl (List.map K0h [(K01.mk n5 n6 n7 n8)])]),(1000,.box [.sl (List.map U8 n9),I o0,I o1])] ?_
  refine rt ?_
  obtain rfl := os h
  exact Qda.ret (fl := [false]) (by kernel_rfl)
 ·rintro spec_dOf_f spec_dFun_l0_f spec_dOf_ih spec_dFun_l0_ih ⟨s1,deep4,a0,m4,m8,n0,b2,o3,b3,o4,o5,o6,o7,o8⟩ r h
  intro c hc
  refine WpL.step ?_
  refine sN ?_
  refine sN ?_
  obtain ⟨o9,p0,h⟩ := Qdd h
  refine Wp.into (x := .normal) (mkS [(0,.ra 1000 0),(4,I deep4),(6,.ra 1 0),(10,.ra 2 0),(11,sI a0),(12,sI m4),(13,I m8),(14,sL n0),(15,.ra 8 0),(16,I o8),(47,.bool o9)] [(1,K1v s1),(2,.box [I 0,I 0,.nils,.nils]),(8,.box [I o4,I o5,sI o6,.sl (List.map K0h o7)]),(1000,.box [.sl (List.map U8 b2),I o3,I b3])]) ?_ ?_
  ·replace h := p0
   rcases is h with ⟨p1,h⟩ | ⟨p1,h⟩
   ·obtain ⟨p2,p3,p4,p5,h⟩ := bq2 h
    refine rgs hc Kh4 [oN,oN,oN,oN,oN,oN,oN,oc (I p2),oN,oc (.bool p4),oN,oT] [(0,.ra 1000 0),(4,I deep4),(6,.ra 1 0),(10,.ra 2 0),(11,sI a0),(12,sI m4),(13,I m8),(14,sL n0),(15,.ra 8 0),(16,I o8),(47,.bool (!p4))] (ar 5 p1 (cq (Kgd _ _ p3) K5w (ar 2 p1 (cq (Kbu _ _ p5) K3x (ar 2 p1 tv))))) ?_
    obtain rfl := os h
    exact Qcz.mk
   refine rgs hc Kh4 [oN,oN,oN,o_,o_,o_,o_,o_,o_,o_,o_,oF] [(0,.ra 1000 0),(4,I deep4),(6,.ra 1 0),(10,.ra 2 0),(11,sI a0),(12,sI m4),(13,I m8),(14,sL n0),(15,.ra 8 0),(16,I o8),(47,.bool false)] (ar 8 (neT p1) (ai p1 tv)) ?_
   obtain rfl := os h
   exact Qcz.mk
  clear p0
  refine ic h (fun p6 h => ?_) fun p6 h => ?_
  ·refine sk ?_
   refine sN ?_
   refine bk 1 ?_
   obtain ⟨⟨p7,p8⟩,p9,h⟩ := Qdd h
   refine rs hc none [oN,oN,oN,oN,oN,oN,some (.call (K1y p7) [.optr [.sl (List.map U8 p8.fb),I p8.fi,I p8.fh],.undef,.undef,.undef,.undef] 1),oN] [(0,.ra 1000 0),(4,I deep4),(6,.ra 1 0),(10,.ra 2 0),(11,sI a0),(12,sI m4),(13,I m8),(14,sL n0),(15,.ra 8 0),(16,I o8)] [(1,K1v s1),(2,.box [I 0,I 0,.nils,.nils]),(8,K1x p7),(1000,K1z p8)] (ab (spec_dOf_ih _ _ p9) K4u tv) ?_
   refine sN ?_
   obtain ⟨d2,d3,h⟩ := Qdd h
   refine Wp.into (x := .normal) (mkS [(0,.ra 1000 0),(4,I deep4),(6,.ra 1 0),(10,.ra 2 0),(11,sI a0),(12,sI m4),(13,I m8),(14,sL n0),(15,.ra 8 0),(16,I o8),(63,.bool d2)] [(1,K1v s1),(2,.box [I 0,I 0,.nils,.nils]),(8,K1x p7),(1000,K1z p8)]) ?_ ?_
   ·replace h := d3
    rcases is h with ⟨q0,h⟩ | ⟨q0,h⟩
    ·obtain ⟨q1,q2,h⟩ := Qdd h
     refine rgs hc none [oN,oN,oN,oN,oN,oc (.bool q1),oT] [(0,.ra 1000 0),(4,I deep4),(6,.ra 1 0),(10,.ra 2 0),(11,sI a0),(12,sI m4),(13,I m8),(14,sL n0),(15,.ra 8 0),(16,I o8),(63,.bool q1)] (ar 3 q0 (cq (Ke9 _ _ q2) K4o (ai q0 tv))) ?_
     obtain rfl := os h
     exact Qcz.mk
    refine rgs hc none [oN,oN,oN,o_,o_,o_,oF] [(0,.ra 1000 0),(4,I deep4),(6,.ra 1 0),(10,.ra 2 0),(11,sI a0),(12,sI m4),(13,I m8),(14,sL n0),(15,.ra 8 0),(16,I o8),(63,.bool false)] (ar 3 (neT q0) (ai q0 tv)) ?_
    obtain rfl := os h
    exact Qcz.mk
   clear d3
   obtain ⟨⟨q3,q4,q5,q6⟩,q7,h⟩ := Qdd h
   refine Wp.into (x := .normal) (mkS [(0,.ra 1000 0),(4,I deep4),(6,.ra 1 0),(10,.ra 2 0),(11,sI a0),(12,sI m4),(13,I m8),(14,sL n0),(15,.ra 8 0),(16,I o8)] [(1,K1v s1),(2,.box [I 0,I 0,.nils,.nils]),(8,.box [I q3,I q4,sI q5,.sl (List.map K0h q6)]),(1000,K1z p8)]) ?_ ?_
   ·replace h := q7
    refine ic h (fun d9 h => ?_) fun d9 h => ?_
    ·obtain ⟨q8,q9,h⟩ := Qdd h
     refine rg hc none [oc (K1y q8),oN] [(0,.ra 1000 0),(4,I deep4),(6,.ra 1 0),(10,.ra 2 0),(11,sI a0),(12,sI m4),(13,I m8),(14,sL n0),(15,.ra 8 0),(16,I o8)] [(1,K1v s1),(2,.box [I 0,I 0,.nils,.nils]),(8,K1x q8),(1000,K1z p8)] (cq (Q71.args (A1 := [I 0,I 0,.sl []]) (A2 := [I 0,I 0,.sl (List.map K0h [])]) (by simp only [List.map_nil]) (Kec _ _ q9)) K4q tv) ?_
     obtain ⟨rfl,hq0⟩ := Prod.mk.inj (Option.some.inj h)
     obtain ⟨rfl,hq1⟩ := Prod.mk.inj (hq0)
     obtain ⟨rfl,rfl⟩ := Prod.mk.inj (hq1)
     exact Qcz.mk
    refine sk ?_
    obtain ⟨rfl,hq0⟩ := Prod.mk.inj (Option.some.inj h)
    obtain ⟨rfl,hq1⟩ := Prod.mk.inj (hq0)
    obtain ⟨rfl,rfl⟩ := Prod.mk.inj (hq1)
    exact iv []
   clear q7
   refine K9l hc 3 [(0,.ra 1000 0),(4,I deep4),(6,.ra 1 0),(10,.ra 2 0),(11,sI a0),(12,sI m4),(13,I m8),(14,sL n0),(15,.ra 8 0),(16,I (wr (o8 + 1)))] ?_
   refine Qcv ?_
   exact (spec_dFun_l0_ih _ _ h c hc)
  refine xt 0 ?_
  refine Qcp ?_
  refine Qcw ?_
  obtain ⟨rfl,hq0⟩ := Prod.mk.inj (Option.some.inj h)
  obtain ⟨rfl,hq1⟩ := Prod.mk.inj (hq0)
  obtain ⟨rfl,hq2⟩ := Prod.mk.inj (hq1)
  obtain ⟨rfl,hq3⟩ := Prod.mk.inj (hq2)
  obtain ⟨rfl,hq4⟩ := Prod.mk.inj (hq3)
  obtain ⟨rfl,rfl⟩ := Prod.mk.inj (hq4)
  exact iv []
 ·rintro spec_dOf_f spec_dOf_ih ⟨c0,s1,ctx2,ty3,deep4⟩ r h
  refine Q71.bodyO K34 (fn := Tryz.f251) (code := K4r) (by kernel_rfl) (by kernel_rfl) (by kernel_rfl) (nt := 269) (by kernel_rfl) (by kernel_rfl) (T := [(0,.ra 1000 0),(1,K1w s1),(2,sL ctx2),(3,sI ty3),(4,I deep4)]) (O := [(1000,K1z c0)]) (by kernel_rfl) (by kernel_rfl) (fun c hc => ?_)
  refine rs hc none [some (.new 1),some (.new 2)] [(0,.ra 1000 0),(2,sL ctx2),(3,sI ty3),(4,I deep4),(6,.ra 1 0),(10,.ra 2 0)] [(1,K1v s1),(2,.box [I 0,I 0,.nils,.nils]),(1000,K1z c0)] tv ?_
  refine rs hc none [some (.mk 3 true),oN] [(0,.ra 1000 0),(2,sL ctx2),(3,sI ty3),(4,I deep4),(6,.ra 1 0),(10,.ra 2 0),(11,.rs 3)] [(1,K1v s1),(2,.box [I 0,I 0,.nils,.nils]),(3,.arr (List.map I [0])),(1000,K1z c0)] tv ?_
  refine sN ?_
  obtain ⟨⟨m4,r0⟩,m5,h⟩ := Qdd h
  refine rs hc none [oN,some (.call (I m4) [.optr [.sl (List.map U8 r0.fb),I r0.fi,I r0.fh],.undef] 1)] [(0,.ra 1000 0),(2,sL ctx2),(3,sI ty3),(4,I deep4),(6,.ra 1 0),(10,.ra 2 0),(11,.rs 3),(37,I m4)] [(1,K1v s1),(2,.box [I 0,I 0,.nils,.nils]),(3,.arr (List.map I [0])),(1000,K1z r0)] (ab (Ka9 _ _ m5) K3d tv) ?_
  refine bk 0 ?_
  refine K9m hc 2 [(0,.ra 1000 0),(2,sL ctx2),(3,sI ty3),(4,I deep4),(6,.ra 1 0),(10,.ra 2 0),(11,.rs 3),(37,I m4),(38,.bool (m4 == 0))] ?_
  refine ic h (fun a4 h => ?_) fun a4 h => ?_
  ·refine sN ?_
   refine vz 3 (Qe5 [0]) [(0,.ra 1000 0),(2,sL ctx2),(3,sI ty3),(4,I deep4),(6,.ra 1 0),(10,.ra 2 0),(11,.sl (List.map I [0])),(37,I m4),(38,.bool (m4 == 0))] [(1,K1v s1),(2,.box [I 0,I 0,.nils,.nils]),(1000,K1z r0)] ?_
   obtain ⟨⟨r1,r3⟩,r4,h⟩ := Qdd h
   obtain ⟨⟨r5,r6⟩,r7,h⟩ := Qdd h
   obtain ⟨⟨r8,r9⟩,s0,h⟩ := Qdd h
   obtain ⟨s2,s3,h⟩ := Qdd h
   refine rg hc (rh [0,0,0,0,0,5,0,0,0,0,0,11,0,0,0,0,0,17,18,19,20]) [oN,oN,oN,oN,oN,some (.call (K1y r1) [.optr [.sl (List.map U8 r3.fb),I r3.fi,I r3.fh],.undef,.undef,.undef,.undef] 1),oN,oN,oN,oN,oN,some (.call (K1y r5) [.optr [.sl (List.map U8 r6.fb),I r6.fi,I r6.fh],.undef,.undef,.undef,.undef] 1),oN,oN,oN,oN,oN,some (.call (K1y r8) [.optr [.sl (List.map U8 r9.fb),I r9.fi,I r9.fh],.undef,.undef,.undef,.undef] 1),some (.eqv (.mk 4 false) ⟨[(58,.rs 4)],[(4,some (.arr (List.map K0h [r1,r5,r8])))],[4]⟩),some (.call (K1y s2) [.tup []] 1),oN] [(10,.ra 2 0)] [(2,K1x s2),(1000,K1z r9)] (ad (spec_dOf_ih _ _ r4) K4u (spec_dOf_ih _ _ r7) K4u (ad (spec_dOf_ih _ _ s0) K4u (congrArg (fun z => (⟨[(58,.rs 4)],[(4,some (.arr z))],[4]⟩ : Wr)) ((Qek (K0o r1) (Qek (K0o r5) (Qek (K0o r8) Qej))) : [K1y r1,K1y r5,K1y r8] = List.map K0h [r1,r5,r8])) (Q71.args (A1 := [I 3,I 0,.sl (Q02 (List.map K0h [r1,r5,r8]))]) (A2 := [I 3,I 0,.sl (List.map K0h [r1,r5,r8])]) (by simp only [List.map_nil,K1d]) (Kec _ _ s3)) (ai K4q tv))) ?_
   refine rt ?_
   obtain rfl := os h
   exact Qda.ret (fl := [false]) (by kernel_rfl)
  refine rs0 hc 2 [(0,.ra 1000 0),(2,sL ctx2),(3,sI ty3),(4,I deep4),(6,.ra 1 0),(10,.ra 2 0),(37,I m4),(60,.bool (m4 == 1))] [(1,K1v s1),(2,.box [I 0,I 0,.nils,.nils]),(1000,K1z r0)] ?_
  refine ic h (fun s4 h => ?_) fun s4 h => ?_
  ·obtain ⟨⟨s5,s6⟩,s7,h⟩ := Qdd h
   obtain ⟨⟨s8,s9⟩,t0,h⟩ := Qdd h
   refine rs hc Kh5 [oN,oN,oN,some (.call (.bool s5) [.optr [.sl (List.map U8 s6.fb),I s6.fi,I s6.fh],.undef] 1),some (.call (oI s8) [.optr [.sl (List.map U8 s9.fb),I s9.fi,I s9.fh],.undef,.undef,.undef] 5),oN] [(0,.ra 1000 0),(2,sL ctx2),(3,sI ty3),(4,I deep4),(6,.ra 1 0),(10,.ra 2 0),(12,.rs 5)] [(1,K1v s1),(2,.box [I 0,I 0,.nils,.nils]),(5,rI s8),(1000,K1z s9)] (ad (Kac _ _ s7) K3e (Kdv _ _ t0) K4i tv) ?_
   obtain ⟨⟨t1,t2⟩,t3,h⟩ := Qdd h
   refine rs hc none [oN,oN,some (.call (oI t1) [.optr [.sl (List.map U8 t2.fb),I t2.fi,I t2.fh],.undef,.undef,.undef] 6),oN] [(0,.ra 1000 0),(2,sL ctx2),(3,sI ty3),(4,I deep4),(6,.ra 1 0),(10,.ra 2 0),(12,.rs 5),(13,.rs 6)] [(1,K1v s1),(2,.box [I 0,I 0,.nils,.nils]),(5,rI s8),(6,rI t1),(1000,K1z t2)] (ab (Kdv _ _ t3) K4i tv) ?_
   refine sN ?_
   refine vz 6 (Qe5 t1) [(0,.ra 1000 0),(2,sL ctx2),(3,sI ty3),(4,I deep4),(6,.ra 1 0),(10,.ra 2 0),(12,.rs 5),(13,sI t1)] [(1,K1v s1),(2,.box [I 0,I 0,.nils,.nils]),(5,rI s8),(1000,K1z t2)] ?_
   refine vz 5 (Qe5 s8) [(0,.ra 1000 0),(2,sL ctx2),(3,sI ty3),(4,I deep4),(6,.ra 1 0),(10,.ra 2 0),(12,sI s8),(13,sI t1)] [(1,K1v s1),(2,.box [I 0,I 0,.nils,.nils]),(1000,K1z t2)] ?_
   obtain ⟨t4,t5,h⟩ := Qdd h
   refine rg hc none [oN,oN,oN,some (.mk 9 false),some (.call (.osl (List.map K14 t4)) [.tup []] 10),oN] [(0,.ra 1000 0),(2,sL ctx2),(3,sI ty3),(4,I deep4),(6,.ra 1 0),(10,.ra 2 0),(12,sI s8),(13,sI t1),(14,.rs 10)] [(1,K1v s1),(2,.box [I 0,I 0,.nils,.nils]),(10,.arr (List.map K14 t4)),(1000,K1z t2)] (ab (Q71.args (A1 := [sL ctx2,.sl (Q02 (List.map K14 [t1,s8]))]) (A2 := [sL ctx2,.sl (List.map K14 [t1,s8])]) (by simp only [List.map_nil,K18]) (Kf4 _ _ t5)) K5c tv) ?_
   refine sN ?_
   refine vz 10 (K18 t4) [(0,.ra 1000 0),(2,sL ctx2),(3,sI ty3),(4,I deep4),(6,.ra 1 0),(10,.ra 2 0),(12,sI s8),(13,sI t1),(14,sL t4)] [(1,K1v s1),(2,.box [I 0,I 0,.nils,.nils]),(1000,K1z t2)] ?_
   obtain ⟨⟨t6,t7⟩,t8,h⟩ := Qdd h
   refine rg hc none [oN,oN,oN,oN,oN,some (.call (K1y t6) [.optr [.sl (List.map U8 t7.fb),I t7.fi,I t7.fh],.undef,.undef,.undef,.undef] 1),some (.new 11),oN] [(0,.ra 1000 0),(2,sL ctx2),(4,I deep4),(6,.ra 1 0),(10,.ra 2 0),(12,sI s8),(13,sI t1),(14,sL t4),(15,.ra 11 0)] [(1,K1v s1),(2,.box [I 0,I 0,.nils,.nils]),(11,K1x t6),(1000,K1z t7)] (ab (spec_dOf_ih _ _ t8) K4u tv) ?_
   obtain ⟨q1,q2,t9,u0,u1,u2,u3,u4,h⟩ := bq4 h
   refine rss hc Kh6 [oN,oN,oN,oN,oN,oc (I q1),oN,oN,oN,oc (I t9),oc (I u1),oc (I u3),oN] [(0,.ra 1000 0),(2,sL ctx2),(4,I deep4),(6,.ra 1 0),(10,.ra 2 0),(12,sI s8),(13,sI t1),(15,.ra 11 0),(16,I u3)] (cq (Kgd _ _ q2) K5w (cq (Kgd _ _ u0) K5w (cq (Kc8 _ _ u2) K41 (cq (Kc8 _ _ u4) K41 tv)))) ?_
   obtain ⟨⟨u5,u6⟩,u7,h⟩ := Qdd h
   obtain ⟨u8,u9,⟨v0,v1⟩,v2,h⟩ := bq2 h
   obtain ⟨v3,v4,h⟩ := Qdd h
   refine rs hc (rx [[0],[0],[0],[3],[0],[0],[0],[0],[0],[0,7,8],[4,7,8,9],[0],[12],[0],[14],[15],[16]]) [oN,oN,oN,some (.call (I u5) [.optr [.sl (List.map U8 u6.fb),I u6.fi,I u6.fh],.undef,.undef] 1),oN,oN,oN,oN,oN,some (.mk 14 false),some (.call (sI u8) [.tup []] 1),oN,some (.call (K1y v0) [.optr [.sl (List.map U8 v1.fb),I v1.fi,I v1.fh],.undef,.undef,.undef,.undef] 1),oN,some (.eqv (.mk 15 false) ⟨[(107,.rs 15)],[(15,some (.arr (List.map K0h [v0,t6])))],[15]⟩),some (.call (K1y v3) [.tup []] 1),oN] [(10,.ra 2 0)] [(2,K1x v3),(1000,K1z v1)] (ad (Kgk _ _ u7) K5y (Q71.args (A1 := [I 1,.sl (Q02 (List.map K14 [s8,t1]))]) (A2 := [I 1,.sl (List.map K14 [s8,t1])]) (by simp only [List.map_nil,K18]) (Q71.res (r2 := sI u8) (by simp only [share,Q02,Qe5]) (Q71.shr (Kds _ _ u9)))) K4k (ad (spec_dOf_ih _ _ v2) K4u (congrArg (fun z => (⟨[(107,.rs 15)],[(15,some (.arr z))],[15]⟩ : Wr)) ((Qek (K0o v0) (Qek (K0o t6) Qej)) : [K1y v0,K1y t6] = List.map K0h [v0,t6])) (Q71.args (A1 := [I 5,I u5,.sl (Q02 (List.map K0h [v0,t6]))]) (A2 := [I 5,I u5,.sl (List.map K0h [v0,t6])]) (by simp only [List.map_nil,K1d]) (Kec _ _ v4)) (ai K4q tv))) ?_
   refine rt ?_
   obtain rfl := os h
   exact Qda.ret (fl := [false]) (by kernel_rfl)
  refine K9m hc 2 [(0,.ra 1000 0),(2,sL ctx2),(3,sI ty3),(4,I deep4),(6,.ra 1 0),(10,.ra 2 0),(37,I m4),(109,.bool (m4 == 2))] ?_
  refine ic h (fun v5 h => ?_) fun v5 h => ?_
  ·obtain ⟨⟨v6,v7⟩,v8,h⟩ := Qdd h
   refine rs hc none [oN,oN,some (.call (oI v6) [.optr [.sl (List.map U8 v7.fb),I v7.fi,I v7.fh],.undef,.undef,.undef] 16),oN] [(0,.ra 1000 0),(2,sL ctx2),(3,sI ty3),(4,I deep4),(6,.ra 1 0),(10,.ra 2 0),(17,.rs 16)] [(1,K1v s1),(2,.box [I 0,I 0,.nils,.nils]),(16,rI v6),(1000,K1z v7)] (ab (Kdv _ _ v8) K4i tv) ?_
   obtain ⟨⟨v9,w0⟩,w1,h⟩ := Qdd h
   refine rs hc none [oN,oN,some (.call (oI v9) [.optr [.sl (List.map U8 w0.fb),I w0.fi,I w0.fh],.undef,.undef,.undef] 17),oN] [(0,.ra 1000 0),(2,sL ctx2),(3,sI ty3),(4,I deep4),(6,.ra 1 0),(10,.ra 2 0),(17,.rs 16),(18,.rs 17)] [(1,K1v s1),(2,.box [I 0,I 0,.nils,.nils]),(16,rI v6),(17,rI v9),(1000,K1z w0)] (ab (Kdv _ _ w1) K4i tv) ?_
   refine sN ?_
   refine vz 16 (Qe5 v6) [(0,.ra 1000 0),(2,sL ctx2),(3,sI ty3),(4,I deep4),(6,.ra 1 0),(10,.ra 2 0),(17,sI v6),(18,.rs 17)] [(1,K1v s1),(2,.box [I 0,I 0,.nils,.nils]),(17,rI v9),(1000,K1z w0)] ?_
   obtain ⟨w2,w3,h⟩ := Qdd h
   refine rg hc none [oN,oN,some (.mk 19 false),some (.call (.osl (List.map K14 w2)) [.tup []] 20),oN] [(0,.ra 1000 0),(2,sL ctx2),(3,sI ty3),(4,I deep4),(6,.ra 1 0),(10,.ra 2 0),(17,sI v6),(18,.rs 17),(19,.rs 20)] [(1,K1v s1),(2,.box [I 0,I 0,.nils,.nils]),(17,rI v9),(20,.arr (List.map K14 w2)),(1000,K1z w0)] (ab (Q71.args (A1 := [sL ctx2,.sl (Q02 (List.map K14 [v6]))]) (A2 := [sL ctx2,.sl (List.map K14 [v6])]) (by simp only [List.map_nil,K18]) (Kf4 _ _ w3)) K5c tv) ?_
   refine sN ?_
   refine vz 17 (Qe5 v9) [(0,.ra 1000 0),(2,sL ctx2),(3,sI ty3),(4,I deep4),(6,.ra 1 0),(10,.ra 2 0),(17,sI v6),(18,sI v9),(19,.rs 20)] [(1,K1v s1),(2,.box [I 0,I 0,.nils,.nils]),(20,.arr (List.map K14 w2)),(1000,K1z w0)] ?_
   obtain ⟨w4,w5,h⟩ := Qdd h
   refine rg hc none [oN,oN,some (.mk 22 false),some (.call (.osl (List.map K14 w4)) [.tup []] 23),oN] [(0,.ra 1000 0),(2,sL ctx2),(3,sI ty3),(4,I deep4),(6,.ra 1 0),(10,.ra 2 0),(17,sI v6),(18,sI v9),(19,.rs 20),(20,.rs 23)] [(1,K1v s1),(2,.box [I 0,I 0,.nils,.nils]),(20,.arr (List.map K14 w2)),(23,.arr (List.map K14 w4)),(1000,K1z w0)] (ab (Q71.args (A1 := [sL ctx2,.sl (Q02 (List.map K14 [v9]))]) (A2 := [sL ctx2,.sl (List.map K14 [v9])]) (by simp only [List.map_nil,K18]) (Kf4 _ _ w5)) K5c tv) ?_
   refine sN ?_
   refine vz 20 (K18 w2) [(0,.ra 1000 0),(2,sL ctx2),(3,sI ty3),(4,I deep4),(6,.ra 1 0),(10,.ra 2 0),(17,sI v6),(18,sI v9),(19,sL w2),(20,.rs 23)] [(1,K1v s1),(2,.box [I 0,I 0,.nils,.nils]),(23,.arr (List.map K14 w4)),(1000,K1z w0)] ?_
   obtain ⟨⟨w6,w7⟩,w8,h⟩ := Qdd h
   refine rg hc none [oN,oN,oN,oN,oN,some (.call (K1y w6) [.optr [.sl (List.map U8 w7.fb),I w7.fi,I w7.fh],.undef,.undef,.undef,.undef] 1),some (.new 24),oN] [(0,.ra 1000 0),(2,sL ctx2),(3,sI ty3),(4,I deep4),(6,.ra 1 0),(10,.ra 2 0),(17,sI v6),(18,sI v9),(19,sL w2),(20,.rs 23),(21,.ra 24 0)] [(1,K1v s1),(2,.box [I 0,I 0,.nils,.nils]),(23,.arr (List.map K14 w4)),(24,K1x w6),(1000,K1z w7)] (ab (spec_dOf_ih _ _ w8) K4u tv) ?_
   refine sN ?_
   refine vz 23 (K18 w4) [(0,.ra 1000 0),(2,sL ctx2),(3,sI ty3),(4,I deep4),(6,.ra 1 0),(10,.ra 2 0),(17,sI v6),(18,sI v9),(19,sL w2),(20,sL w4),(21,.ra 24 0)] [(1,K1v s1),(2,.box [I 0,I 0,.nils,.nils]),(24,K1x w6),(1000,K1z w7)] ?_
   obtain ⟨⟨w9,x0⟩,x1,h⟩ := Qdd h
   refine rg hc none [oN,oN,oN,oN,oN,some (.call (K1y w9) [.optr [.sl (List.map U8 x0.fb),I x0.fi,I x0.fh],.undef,.undef,.undef,.undef] 1),some (.new 25),oN] [(0,.ra 1000 0),(2,sL ctx2),(4,I deep4),(6,.ra 1 0),(10,.ra 2 0),(17,sI v6),(18,sI v9),(19,sL w2),(20,sL w4),(21,.ra 24 0),(22,.ra 25 0)] [(1,K1v s1),(2,.box [I 0,I 0,.nils,.nils]),(24,K1x w6),(25,K1x w9),(1000,K1z x0)] (ab (spec_dOf_ih _ _ x1) K4u tv) ?_
   obtain ⟨x2,x3,j8,k0,x4,x5,x6,x7,h⟩ := bq4 h
   refine rss hc Kh6 [oN,oN,oN,oN,oN,oc (I x2),oN,oN,oN,oc (I j8),oc (I x4),oc (I x6),oN] [(0,.ra 1000 0),(2,sL ctx2),(4,I deep4),(6,.ra 1 0),(10,.ra 2 0),(17,sI v6),(18,sI v9),(21,.ra 24 0),(22,.ra 25 0),(23,I x6)] (cq (Kgd _ _ x3) K5w (cq (Kgd _ _ k0) K5w (cq (Kc8 _ _ x5) K41 (cq (Kc8 _ _ x7) K41 tv)))) ?_
   obtain ⟨⟨x8,x9⟩,y0,h⟩ := Qdd h
   obtain ⟨y1,y2,⟨y3,y4⟩,y5,h⟩ := bq2 h
   obtain ⟨y6,y7,h⟩ := Qdd h
   refine rs hc (rx [[0],[0],[0],[3],[0],[0],[0],[0],[0],[0,7,8],[4,7,8,9],[0],[12],[0],[0],[15],[16],[17]]) [oN,oN,oN,some (.call (I x8) [.optr [.sl (List.map U8 x9.fb),I x9.fi,I x9.fh],.undef,.undef] 1),oN,oN,oN,oN,oN,some (.mk 28 false),some (.call (sI y1) [.tup []] 1),oN,some (.call (K1y y3) [.optr [.sl (List.map U8 y4.fb),I y4.fi,I y4.fh],.undef,.undef,.undef,.undef] 1),oN,oN,some (.eqv (.mk 29 false) ⟨[(164,.rs 29)],[(29,some (.arr (List.map K0h [y3,w6,w9])))],[29]⟩),some (.call (K1y y6) [.tup []] 1),oN] [(10,.ra 2 0)] [(2,K1x y6),(1000,K1z y4)] (ad (Kgk _ _ y0) K5y (Q71.args (A1 := [I 2,.sl (Q02 (List.map K14 [v6,v9]))]) (A2 := [I 2,.sl (List.map K14 [v6,v9])]) (by simp only [List.map_nil,K18]) (Q71.res (r2 := sI y1) (by simp only [share,Q02,Qe5]) (Q71.shr (Kds _ _ y2)))) K4k (ad (spec_dOf_ih _ _ y5) K4u (congrArg (fun z => (⟨[(164,.rs 29)],[(29,some (.arr z))],[29]⟩ : Wr)) ((Qek (K0o y3) (Qek (K0o w6) (Qek (K0o w9) Qej))) : [K1y y3,K1y w6,K1y w9] = List.map K0h [y3,w6,w9])) (Q71.args (A1 := [I 8,I x8,.sl (Q02 (List.map K0h [y3,w6,w9]))]) (A2 := [I 8,I x8,.sl (List.map K0h [y3,w6,w9])]) (by simp only [List.map_nil,K1d]) (Kec _ _ y7)) (ai K4q tv))) ?_
   refine rt ?_
   obtain rfl := os h
   exact Qda.ret (fl := [false]) (by kernel_rfl)
  refine K9m hc 2 [(0,.ra 1000 0),(2,sL ctx2),(3,sI ty3),(4,I deep4),(6,.ra 1 0),(10,.ra 2 0),(166,.bool (m4 == 3))] ?_
  refine ic h (fun y8 h => ?_) fun y8 h => ?_
  ·obtain ⟨⟨y9,z0⟩,z1,h⟩ := Qdd h
   obtain ⟨⟨z2,z3⟩,z4,h⟩ := Qdd h
   refine rs hc Kh5 [oN,oN,oN,some (.call (.bool y9) [.optr [.sl (List.map U8 z0.fb),I z0.fi,I z0.fh],.undef] 1),some (.call (oI z2) [.optr [.sl (List.map U8 z3.fb),I z3.fi,I z3.fh],.undef,.undef,.undef] 30),oN] [(0,.ra 1000 0),(2,sL ctx2),(3,sI ty3),(4,I deep4),(6,.ra 1 0),(10,.ra 2 0),(24,.rs 30)] [(1,K1v s1),(2,.box [I 0,I 0,.nils,.nils]),(30,rI z2),(1000,K1z z3)] (ad (Kac _ _ z1) K3e (Kdv _ _ z4) K4i tv) ?_
   refine sN ?_
   refine vz 30 (Qe5 z2) [(0,.ra 1000 0),(2,sL ctx2),(3,sI ty3),(4,I deep4),(6,.ra 1 0),(10,.ra 2 0),(24,sI z2)] [(1,K1v s1),(2,.box [I 0,I 0,.nils,.nils]),(1000,K1z z3)] ?_
   obtain ⟨z5,z6,h⟩ := Qdd h
   refine rg hc none [oN,oN,some (.mk 32 false),some (.call (.osl (List.map K14 z5)) [.tup []] 33),oN] [(0,.ra 1000 0),(2,sL ctx2),(3,sI ty3),(4,I deep4),(6,.ra 1 0),(10,.ra 2 0),(24,sI z2),(25,.rs 33)] [(1,K1v s1),(2,.box [I 0,I 0,.nils,.nils]),(33,.arr (List.map K14 z5)),(1000,K1z z3)] (ab (Q71.args (A1 := [sL ctx2,.sl (Q02 (List.map K14 [z2]))]) (A2 := [sL ctx2,.sl (List.map K14 [z2])]) (by simp only [List.map_nil,K18]) (Kf4 _ _ z6)) K5c tv) ?_
   refine sN ?_
   refine vz 33 (K18 z5) [(0,.ra 1000 0),(2,sL ctx2),(3,sI ty3),(4,I deep4),(6,.ra 1 0),(10,.ra 2 0),(24,sI z2),(25,sL z5)] [(1,K1v s1),(2,.box [I 0,I 0,.nils,.nils]),(1000,K1z z3)] ?_
   obtain ⟨⟨m1,m2⟩,m3,h⟩ := Qdd h
   refine rg hc none [oN,oN,oN,oN,oN,some (.call (K1y m1) [.optr [.sl (List.map U8 m2.fb),I m2.fi,I m2.fh],.undef,.undef,.undef,.undef] 1),some (.new 34),oN] [(0,.ra 1000 0),(2,sL ctx2),(4,I deep4),(6,.ra 1 0),(10,.ra 2 0),(24,sI z2),(25,sL z5),(26,.ra 34 0)] [(1,K1v s1),(2,.box [I 0,I 0,.nils,.nils]),(34,K1x m1),(1000,K1z m2)] (ab (spec_dOf_ih _ _ m3) K4u tv) ?_
   obtain ⟨z7,z8,⟨z9,h0⟩,h1,h⟩ := bq2 h
   refine rs hc Kh7 [oN,oN,oN,oN,oN,oc (I z7),some (.call (I z9) [.optr [.sl (List.map U8 h0.fb),I h0.fi,I h0.fh],.undef,.undef] 1),oN] [(0,.ra 1000 0),(2,sL ctx2),(4,I deep4),(6,.ra 1 0),(10,.ra 2 0),(24,sI z2),(26,.ra 34 0),(27,I z9)] [(1,K1v s1),(2,.box [I 0,I 0,.nils,.nils]),(34,K1x m1),(1000,K1z h0)] (cq (Kgd _ _ z8) K5w (ab (Kgk _ _ h1) K5y tv)) ?_
   obtain ⟨h2,h3,⟨h4,h5⟩,h6,h⟩ := bq2 h
   obtain ⟨h7,h8,h⟩ := Qdd h
   refine rs hc (rx [[0],[0],[0],[0],[0,3],[0],[0,5],[0,3,4,5,6],[0],[9],[0],[11],[12],[13]]) [oN,oN,oN,oN,oN,oN,some (.mk 37 false),some (.call (sI h2) [.tup []] 1),oN,some (.call (K1y h4) [.optr [.sl (List.map U8 h5.fb),I h5.fi,I h5.fh],.undef,.undef,.undef,.undef] 1),oN,some (.eqv (.mk 38 false) ⟨[(201,.rs 38)],[(38,some (.arr (List.map K0h [h4,m1])))],[38]⟩),some (.call (K1y h7) [.tup []] 1),oN] [(10,.ra 2 0)] [(2,K1x h7),(1000,K1z h5)] (ad (Q71.args (A1 := [I (wr (19 + z9)),.sl (Q02 (List.map K14 [z2]))]) (A2 := [I (wr (19 + z9)),.sl (List.map K14 [z2])]) (by simp only [List.map_nil,K18]) (Q71.res (r2 := sI h2) (by simp only [share,Q02,Qe5]) (Q71.shr (Kds _ _ h3)))) K4k (spec_dOf_ih _ _ h6) K4u (ac (congrArg (fun z => (⟨[(201,.rs 38)],[(38,some (.arr z))],[38]⟩ : Wr)) ((Qek (K0o h4) (Qek (K0o m1) Qej)) : [K1y h4,K1y m1] = List.map K0h [h4,m1])) (Q71.args (A1 := [I 12,I 1,.sl (Q02 (List.map K0h [h4,m1]))]) (A2 := [I 12,I 1,.sl (List.map K0h [h4,m1])]) (by simp only [List.map_nil,K1d]) (Kec _ _ h8)) K4q tv)) ?_
   refine rt ?_
   obtain rfl := os h
   exact Qda.ret (fl := [false]) (by kernel_rfl)
  refine sk ?_
  obtain ⟨⟨h9,a00⟩,a01,h⟩ := Qdd h
  obtain ⟨⟨a02,a03⟩,a04,h⟩ := Qdd h
  refine rs hc Kh5 [oN,oN,oN,some (.call (.bool h9) [.optr [.sl (List.map U8 a00.fb),I a00.fi,I a00.fh],.undef] 1),some (.call (oI a02) [.optr [.sl (List.map U8 a03.fb),I a03.fi,I a03.fh],.undef,.undef,.undef] 39),oN] [(0,.ra 1000 0),(2,sL ctx2),(3,sI ty3),(4,I deep4),(6,.ra 1 0),(10,.ra 2 0),(28,.rs 39)] [(1,K1v s1),(2,.box [I 0,I 0,.nils,.nils]),(39,rI a02),(1000,K1z a03)] (ad (Kac _ _ a01) K3e (Kdv _ _ a04) K4i tv) ?_
  refine sN ?_
  refine vz 39 (Qe5 a02) [(0,.ra 1000 0),(2,sL ctx2),(3,sI ty3),(4,I deep4),(6,.ra 1 0),(10,.ra 2 0),(28,sI a02)] [(1,K1v s1),(2,.box [I 0,I 0,.nils,.nils]),(1000,K1z a03)] ?_
  obtain ⟨a05,a06,h⟩ := Qdd h
  refine rg hc none [oN,oN,some (.mk 41 false),some (.call (.osl (List.map K14 a05)) [.tup []] 42),oN] [(0,.ra 1000 0),(2,sL ctx2),(3,sI ty3),(4,I deep4),(6,.ra 1 0),(10,.ra 2 0),(28,sI a02),(29,.rs 42)] [(1,K1v s1),(2,.box [I 0,I 0,.nils,.nils]),(42,.arr (List.map K14 a05)),(1000,K1z a03)] (ab (Q71.args (A1 := [sL ctx2,.sl (Q02 (List.map K14 [a02]))]) (A2 := [sL ctx2,.sl (List.map K14 [a02])]) (by simp only [List.map_nil,K18]) (Kf4 _ _ a06)) K5c tv) ?_
  refine sN ?_
  refine vz 42 (K18 a05) [(0,.ra 1000 0),(2,sL ctx2),(3,sI ty3),(4,I deep4),(6,.ra 1 0),(10,.ra 2 0),(28,sI a02),(29,sL a05)] [(1,K1v s1),(2,.box [I 0,I 0,.nils,.nils]),(1000,K1z a03)] ?_
  obtain ⟨⟨a07,a08⟩,a09,h⟩ := Qdd h
  refine rg hc none [oN,oN,oN,oN,oN,some (.call (K1y a07) [.optr [.sl (List.map U8 a08.fb),I a08.fi,I a08.fh],.undef,.undef,.undef,.undef] 1),some (.new 43),oN] [(0,.ra 1000 0),(2,sL ctx2),(3,sI ty3),(4,I deep4),(6,.ra 1 0),(10,.ra 2 0),(28,sI a02),(29,sL a05),(30,.ra 43 0)] [(1,K1v s1),(2,.box [I 0,I 0,.nils,.nils]),(43,K1x a07),(1000,K1z a08)] (ab (spec_dOf_ih _ _ a09) K4u tv) ?_
  obtain ⟨a10,a11,⟨a12,a13⟩,a14,h⟩ := bq2 h
  refine rs hc Kh7 [oN,oN,oN,oN,oN,oc (I a10),some (.call (I a12) [.optr [.sl (List.map U8 a13.fb),I a13.fi,I a13.fh],.undef,.undef] 1),oN] [(0,.ra 1000 0),(2,sL ctx2),(3,sI ty3),(4,I deep4),(6,.ra 1 0),(10,.ra 2 0),(28,sI a02),(30,.ra 43 0),(31,I a12)] [(1,K1v s1),(2,.box [I 0,I 0,.nils,.nils]),(43,K1x a07),(1000,K1z a13)] (cq (Kgd _ _ a11) K5w (ab (Kgk _ _ a14) K5y tv)) ?_
  refine rs hc none [oN,oN,oN,some (.eqv (.mk 44 false) ⟨[(228,.rs 44)],[(44,some (.arr (List.map K0h [a07])))],[44]⟩),oN,some (.new 45),oN] [(0,.ra 1000 0),(2,sL ctx2),(3,sI ty3),(4,I deep4),(6,.ra 1 0),(10,.ra 2 0),(28,sI a02),(31,I a12),(32,.ra 45 0)] [(1,K1v s1),(2,.box [I 0,I 0,.nils,.nils]),(44,.arr (List.map K0h [a07])),(45,.box [I 9,I a12,sI a02,.rs 44]),(1000,K1z a13)] (ai (congrArg (fun z => (⟨[(228,.rs 44)],[(44,some (.arr z))],[44]⟩ : Wr)) ((Qek (K0o a07) Qej) : [K1y a07] = List.map K0h [a07])) tv) ?_
  refine sN ?_
  obtain ⟨⟨a15,a16⟩,a17,h⟩ := Qdd h
  refine rs hc none [oN,some (.call (.bool a15) [.optr [.sl (List.map U8 a16.fb),I a16.fi,I a16.fh],.undef] 1)] [(0,.ra 1000 0),(2,sL ctx2),(3,sI ty3),(4,I deep4),(6,.ra 1 0),(10,.ra 2 0),(28,sI a02),(31,I a12),(32,.ra 45 0),(231,.bool a15)] [(1,K1v s1),(2,.box [I 0,I 0,.nils,.nils]),(44,.arr (List.map K0h [a07])),(45,.box [I 9,I a12,sI a02,.rs 44]),(1000,K1z a16)] (ab (Kac _ _ a17) K3e tv) ?_
  obtain ⟨fl,a18,h⟩ := Qdd h
  refine flw (Kgy c c0 s1 ctx2 ty3 deep4 a02 a07 a12 a16 fl) ?_ (fun hF => ?_)
  ·replace h := a18
   refine ic h (fun a19 h => ?_) fun a19 h => ?_
   ·obtain ⟨a20,a21,h⟩ := Qdd h
    refine rs hc none [oN,oN,oN,oN,some (.mk 46 false),some (.call (oI a20) [] 47),oN] [(0,.ra 1000 0),(2,sL ctx2),(4,I deep4),(6,.ra 1 0),(10,.ra 2 0),(28,sI a02),(32,.ra 45 0),(33,.rs 47)] [(1,K1v s1),(2,.box [I 0,I 0,.nils,.nils]),(44,.arr (List.map K0h [a07])),(45,.box [I 9,I a12,sI a02,.rs 44]),(47,rI a20),(1000,K1z a16)] (ac (Q71.args (A1 := [I (wr (3 + a12)),.sl (Q02 (List.map K14 [a02,ty3]))]) (A2 := [I (wr (3 + a12)),.sl (List.map K14 [a02,ty3])]) (by simp only [List.map_nil,K18]) (Kds _ _ a21)) K4k (Or.inr (Qed Qe9 a20) : ([46] : List Nat) = [] ∨ noSh (oI a20) = true) tv) ?_
    refine rss hc none [oN,some (.eqv (.no) ⟨[(239,I (a20.length : Int))],[],[]⟩),oN] [(0,.ra 1000 0),(2,sL ctx2),(4,I deep4),(6,.ra 1 0),(10,.ra 2 0),(28,sI a02),(32,.ra 45 0),(33,.rs 47),(240,.bool (decide ((a20.length : Int) < 12)))] (ai (Qdj (d := 239) I a20) tv) ?_
    refine ic h (fun a22 h => ?_) fun a22 h => ?_
    ·obtain ⟨a23,a24,⟨a25,a26⟩,a27,h⟩ := bq2 h
     obtain ⟨a28,a29,a30,a31,h⟩ := bq2 h
     refine rs hc (rx [[0],[0],[0],[0],[0],[0],[0,5],[7],[8],[9],[10],[0],[12]]) [oc (K1y a23),oN,oN,oN,oN,oN,oN,some (.call (K1y a25) [.optr [.sl (List.map U8 a26.fb),I a26.fi,I a26.fh],.undef,.undef,.undef,.undef] 1),oc (K1y a28),some (.eqv (.mk 51 false) ⟨[(250,.rs 51)],[(51,some (.arr (List.map K0h [a23,a28])))],[51]⟩),some (.call (K1y a30) [.tup []] 1),some (.new 52),oN] [(10,.ra 2 0),(32,.ra 45 0),(33,.rs 47),(34,.ra 52 0)] [(2,.box [I 0,I 0,.nils,.nils]),(44,.arr (List.map K0h [a07])),(45,.box [I 9,I a12,sI a02,.rs 44]),(47,rI a20),(52,K1x a30),(1000,K1z a26)] (cq (Q71.args (A1 := [I 0,I 0,.sl []]) (A2 := [I 0,I 0,.sl (List.map K0h [])]) (by simp only [List.map_nil]) (Kec _ _ a24)) K4q (ab (spec_dOf_ih _ _ a27) K4u (cq (Q71.res (r2 := K1y a28) (by simp only [share,Q02,K1i,Qe5]) (Q71.shr (Kgu _ _ a29))) K62 (ac (congrArg (fun z => (⟨[(250,.rs 51)],[(51,some (.arr z))],[51]⟩ : Wr)) ((Qek (K0o a23) (Qek (K0o a28) Qej)) : [K1y a23,K1y a28] = List.map K0h [a23,a28])) (Q71.args (A1 := [I 10,I 0,.sl (Q02 (List.map K0h [a23,a28]))]) (A2 := [I 10,I 0,.sl (List.map K0h [a23,a28])]) (by simp only [List.map_nil,K1d]) (Kec _ _ a31)) K4q tv)))) ?_
     refine sN ?_
     refine vz 47 (Qe5 a20) [(10,.ra 2 0),(32,.ra 45 0),(33,sI a20),(34,.ra 52 0)] [(2,.box [I 0,I 0,.nils,.nils]),(44,.arr (List.map K0h [a07])),(45,.box [I 9,I a12,sI a02,.rs 44]),(52,K1x a30),(1000,K1z a26)] ?_
     refine vz 44 (K1d [a07]) [(10,.ra 2 0),(32,.ra 45 0),(33,sI a20),(34,.ra 52 0)] [(2,.box [I 0,I 0,.nils,.nils]),(45,.box [I 9,I a12,sI a02,.sl (List.map K0h [a07])]),(52,K1x a30),(1000,K1z a26)] ?_
     obtain ⟨a32,a33,h⟩ := Qdd h
     refine rg hc none [oN,oN,some (.eqv (.call .undef [] 59) ⟨[(254,.sl (List.map K0h [a30]))],[(59,none)],[59]⟩),oN,oN,some (.eqv (.mk 60 false) ⟨[(257,.rs 60)],[(60,some (.arr (List.map K0h [(K01.mk 9 1 a20 [a30]),(K01.mk 9 a12 a02 [a07])])))],[60]⟩),some (.call (K1y a32) [.tup []] 1),oN] [(10,.ra 2 0)] [(2,K1x a32),(1000,K1z a26)] (ad (congrArg (fun z => (⟨[(254,.sl z)],[(59,none)],[59]⟩ : Wr)) ((Qek (K0o a30) Qej) : [K1y a30] = List.map K0h [a30])) (congrArg (fun z => (⟨[(257,.rs 60)],[(60,some (.arr z))],[60]⟩ : Wr)) ((Qek (K0o (K01.mk 9 1 a20 [a30])) (Qek (K0o (K01.mk 9 a12 a02 [a07])) Qej)) : [AV.agg [I 9,I 1,sI a20,.sl (List.map K0h [a30])],AV.agg [I 9,I a12,sI a02,.sl (List.map K0h [a07])]] = List.map K0h [(K01.mk 9 1 a20 [a30]),(K01.mk 9 a12 a02 [a07])])) (Q71.args (A1 := [I 10,I 0,.sl (Q02 (List.map K0h [(K01.mk 9 1 a20 [a30]),(K01.mk 9 a12 a02 [a07])]))]) (A2 := [I 10,I 0,.sl (List.map K0h [(K01.mk 9 1 a20 [a30]),(K01.mk 9 a12 a02 [a07])])]) (by simp only [List.map_nil,K1d]) (Kec _ _ a33)) K4q tv) ?_
     refine rt ?_
     obtain rfl := os h
     exact Qdb.ret (fl := [false]) (by kernel_rfl)
    refine sk ?_
    obtain rfl := os h
    exact iv []
   refine sk ?_
   obtain rfl := os h
   exact iv []
  rcases fl with ⟨⟩ | r
  ·refine Wp.into (x := .normal) (mkS [(0,.ra 1000 0),(2,sL ctx2),(4,I deep4),(6,.ra 1 0),(10,.ra 2 0),(28,sI a02),(32,.ra 45 0)] [(1,K1v s1),(2,.box [I 0,I 0,.nils,.nils]),(44,.arr (List.map K0h [a07])),(45,.box [I 9,I a12,sI a02,.rs 44]),(1000,K1z a16)]) hF ?_
   refine sN ?_
   refine vz 44 (K1d [a07]) [(0,.ra 1000 0),(2,sL ctx2),(4,I deep4),(6,.ra 1 0),(10,.ra 2 0),(28,sI a02),(32,.ra 45 0)] [(1,K1v s1),(2,.box [I 0,I 0,.nils,.nils]),(45,.box [I 9,I a12,sI a02,.sl (List.map K0h [a07])]),(1000,K1z a16)] ?_
   obtain ⟨⟨a34,a35⟩,a36,h⟩ := Qdd h
   obtain ⟨a37,a38,h⟩ := Qdd h
   refine rg hc (rx [[0],[0],[0],[0],[0],[0],[0,5],[0,1,2,3,4,5,6],[8],[9],[10]]) [oN,oN,oN,oN,oN,oN,oN,some (.call (K1y a34) [.optr [.sl (List.map U8 a35.fb),I a35.fi,I a35.fh],.undef,.undef,.undef,.undef] 1),some (.eqv (.mk 62 false) ⟨[(267,.rs 62)],[(62,some (.arr (List.map K0h [(K01.mk 9 a12 a02 [a07]),a34])))],[62]⟩),some (.call (K1y a37) [.tup []] 1),oN] [(10,.ra 2 0)] [(2,K1x a37),(1000,K1z a35)] (ad (spec_dOf_ih _ _ a36) K4u (congrArg (fun z => (⟨[(267,.rs 62)],[(62,some (.arr z))],[62]⟩ : Wr)) ((Qek (K0o (K01.mk 9 a12 a02 [a07])) (Qek (K0o a34) Qej)) : [AV.agg [I 9,I a12,sI a02,.sl (List.map K0h [a07])],K1y a34] = List.map K0h [(K01.mk 9 a12 a02 [a07]),a34])) (Q71.args (A1 := [I 10,I 0,.sl (Q02 (List.map K0h [(K01.mk 9 a12 a02 [a07]),a34]))]) (A2 := [I 10,I 0,.sl (List.map K0h [(K01.mk 9 a12 a02 [a07]),a34])]) (by simp only [List.map_nil,K1d]) (Kec _ _ a38)) (ai K4q tv)) ?_
   refine rt ?_
   obtain rfl := os h
   exact Qda.ret (fl := [false]) (by kernel_rfl)
  refine Wp.mono hF ?_
  rintro _ _ ⟨rfl,hfin⟩
  obtain rfl := os h
  exact ⟨.inl rfl,hfin⟩
theorem Khh : ∀ p r,Kh8 p = some r → Khc p r := Khg.1
theorem Khi : ∀ p r,Kh9 p = some r → Khd p r := Khg.2.1
theorem Khj : ∀ p r,Kha p = some r → Khe p r := Khg.2.2.1
theorem Khk : ∀ p r,Khb p = some r → Khf p r := Khg.2.2.2
def Khl (c : Ctx) : Int → Exit → Q0a → Prop
 | a0 => Qcz c (.exit 0) (mkS [(1,I a0)] [])
mutual
def Khm (p : K01 × Int) : Option (Int) :=
 match p with
 | (t0,left1) =>
  (Khn (t0,(wr (left1 - 1)),0)) >>= fun a0 =>
  some a0
 partial_fixpoint
def Khn (p : K01 × Int × Int) : Option (Int) :=
 match p with
 | (t0,a0,a1) =>
  ((
  if (decide (a1 < (t0.fKids.length : Int))) = true then
  some ((decide (a0 ≥ 0)))
  else
  some (false)
  ) : Option (Bool)) >>= fun a2 =>
  if a2 = true then
  (idx t0.fKids a1) >>= fun a3 =>
  (Khm (a3,a0)) >>= fun a4 =>
  Khn (t0,a4,(wr (a1 + 1)))
  else
  some (a0)
 partial_fixpoint
end
def Kho (p : K01 × Int) (r : Int) : Prop :=
 match p with
 | (t0,left1) => Q71 Tryz.prog 113 [K1y t0,I left1] (I r) []
def Khp (p : K01 × Int × Int) (fl : Int) : Prop :=
 match p with
 | (t0,a0,a1) => ∀ c : Ctx,c.nt = 27 → WpL Tryz.prog c (cl (cl (cr (cl (cr (cr K63)))))) (Khl c fl) (mkS [(1,I a0),(2,.ra 1 0),(5,I a1)] [(1,K1x t0)])
theorem Khq : (∀ p r,Khm p = some r → Kho p r) ∧ (∀ p r,Khn p = some r → Khp p r) := by
 refine Khm.mutual_partial_correctness Kho Khp ?_ ?_
 ·rintro spec_l2Left_l0_f spec_l2Left_l0_ih ⟨t0,left1⟩ r h
  refine b0 Tryz.f113 K63 27 [(0,K1y t0),(1,I left1)] fun c hc => ?_
  refine rs hc none [some (.new 1),oN] [(1,I left1),(2,.ra 1 0)] [(1,K1x t0)] tv ?_
  refine K9m hc 3 [(1,I (wr (left1 - 1))),(2,.ra 1 0)] ?_
  refine sN ?_
  refine K9m hc 1 [(1,I (wr (left1 - 1))),(2,.ra 1 0),(5,I 0)] ?_
  refine bk 0 ?_
  obtain ⟨a0,a1,h⟩ := Qdd h
  have hL := spec_l2Left_l0_ih _ _ a1 c hc
  refine lp ?_
  refine WpL.into (e := (.exit 0)) (mkS [(1,I a0)] []) hL ?_
  refine Qcr ?_
  refine rs0 hc 2 [(4,I a0)] [] ?_
  refine rt ?_
  obtain rfl := os h
  exact rq [true]
 ·rintro spec_l2Left_f spec_l2Left_l0_f spec_l2Left_ih spec_l2Left_l0_ih ⟨t0,a2,a3⟩ r h
  intro c hc
  refine WpL.step ?_
  refine sN ?_
  refine sN ?_
  obtain ⟨a4,a5,h⟩ := Qdd h
  refine Wp.into (x := .normal) (mkS [(1,I a2),(2,.ra 1 0),(5,I a3),(16,.bool a4)] [(1,K1x t0)]) ?_ ?_
  ·replace h := a5
   rcases is h with ⟨a6,h⟩ | ⟨a6,h⟩
   ·refine rgs hc none [oN,oN,oN,some (.eqv (.no) ⟨[(11,I (t0.fKids.length : Int))],[],[]⟩),oN,oN,oN,oN,oT] [(1,I a2),(2,.ra 1 0),(5,I a3),(16,.bool (decide (a2 ≥ 0)))] (ai (Qdj (d := 11) K0h t0.fKids) (ar 3 a6 tv)) ?_
    obtain rfl := os h
    exact Qcz.mk
   refine rgs hc none [oN,oN,oN,some (.eqv (.no) ⟨[(11,I (t0.fKids.length : Int))],[],[]⟩),oN,oN,o_,o_,oF] [(1,I a2),(2,.ra 1 0),(5,I a3),(16,.bool false)] (ai (Qdj (d := 11) K0h t0.fKids) (ar 2 (neT a6) (ai a6 tv))) ?_
   obtain rfl := os h
   exact Qcz.mk
  clear a5
  refine ic h (fun a7 h => ?_) fun a7 h => ?_
  ·refine sk ?_
   refine sN ?_
   refine bk 1 ?_
   obtain ⟨a8,a9,b1,b2,h⟩ := bq2 h
   refine rgs hc none [oN,oN,oN,some (.el (K1y a8)),oN,oN,oc (I b1),oN] [(1,I b1),(2,.ra 1 0),(5,I a3)] (ai (Qdh a9 (K0o a8)) (cq (spec_l2Left_ih _ _ b2) K64 tv)) ?_
   refine K9l hc 3 [(1,I b1),(2,.ra 1 0),(5,I (wr (a3 + 1)))] ?_
   refine Qcv ?_
   exact (spec_l2Left_l0_ih _ _ h c hc)
  refine xt 0 ?_
  refine Qcp ?_
  refine Qcw ?_
  obtain rfl := os h
  exact iv []
theorem Khr : ∀ p r,Khm p = some r → Kho p r := Khq.1
theorem Khs : ∀ p r,Khn p = some r → Khp p r := Khq.2
def Kht (c : Ctx) (c0 : K02) (s1 : K00) (ctx2 : LL) (deep3 : Int) (data4 : Bool) : (Int × Int × (List Int) × (List K01) × (List Int) × Int × Int) ⊕ ((K01 × K02)) → Exit → Q0a → Prop
 | .inl (a0,a1,a2,a3,a4,a5,a6) => Qcz c (.exit 0) (mkS [(10,.ra 2 0),(11,.ra 4 0)] [(2,.box [I 0,I 0,.nils,.nils]),(4,.box [I a0,I a1,sI a2,.sl (List.map K0h a3)]),(1000,.box [.sl (List.map U8 a4),I a5,I a6])])
 | .inr r => Qdb TIx Tryz.f201 [.optr [.sl (List.map U8 c0.fb),I c0.fi,I c0.fh],K1w s1,sL ctx2,I deep3,.bool data4] (.agg [I r.1.fOp,I r.1.fN,.sl (List.map I r.1.fType),.sl (List.map K0h r.1.fKids)],[.optr [.sl (List.map U8 r.2.fb),I r.2.fi,I r.2.fh],.undef,.undef,.undef,.undef])
def Khu (p : K02 × K00 × LL × Int × Bool × (List Int) × Int × Int × Int × Int × (List Int) × (List K01) × Int) : Option ((Int × Int × (List Int) × (List K01) × (List Int) × Int × Int) ⊕ ((K01 × K02))) :=
 match p with
 | (c0,s1,ctx2,deep3,data4,a0,a1,a2,a3,a4,a5,a6,a7) =>
  if (decide (a7 < 3)) = true then
  ((
  (Khm ((K01.mk a3 a4 a5 a6),120)) >>= fun a8 =>
  if (decide (a8 ≥ 0)) = true then
  (Kfy (s1,ctx2,(K01.mk a3 a4 a5 a6))) >>= fun a9 =>
  some ((a9.ffault == 0))
  else
  some (false)
  ) : Option (Bool)) >>= fun b1 =>
  if b1 = true then
  some (.inr ((K01.mk a3 a4 a5 a6),(K02.mk a0 a1 a2)))
  else
  (Kdt ((K02.mk a0 a1 a2),s1,1,data4)) >>= fun (b2,b3) =>
  (K9y (deep3,2)) >>= fun b4 =>
  (Kh8 (b3,s1,ctx2,b2,b4)) >>= fun (b5,b6) =>
  Khu (c0,s1,ctx2,deep3,data4,b6.fb,b6.fi,b6.fh,b5.fOp,b5.fN,b5.fType,b5.fKids,(wr (a7 + 1)))
  else
  some (.inl (a3,a4,a5,a6,a0,a1,a2))
 partial_fixpoint
def Khv (p : K02 × K00 × LL × Int × Bool × (List Int) × Int × Int × Int × Int × (List Int) × (List K01) × Int) (fl : (Int × Int × (List Int) × (List K01) × (List Int) × Int × Int) ⊕ ((K01 × K02))) : Prop :=
 match p with
 | (c0,s1,ctx2,deep3,data4,a0,a1,a2,a3,a4,a5,a6,a7) => ∀ c : Ctx,c.nt = 53 → WpL Tryz.prog c (cl (cl (cr (cl (cr (cr K65)))))) (Kht c c0 s1 ctx2 deep3 data4 fl) (mkS [(0,.ra 1000 0),(2,sL ctx2),(3,I deep3),(4,.bool data4),(6,.ra 1 0),(10,.ra 2 0),(11,.ra 4 0),(12,I a7)] [(1,K1v s1),(2,.box [I 0,I 0,.nils,.nils]),(4,.box [I a3,I a4,sI a5,.sl (List.map K0h a6)]),(1000,.box [.sl (List.map U8 a0),I a1,I a2])])
theorem Khw : ∀ p r,Khu p = some r → Khv p r := by
 refine Khu.partial_correctness Khv ?_
 rintro spec_dIn_l0_f spec_dIn_l0_ih ⟨c0,s1,ctx2,deep3,data4,a0,a1,a2,a3,a4,a5,a6,a7⟩ r h
 intro c hc
 refine WpL.step ?_
 refine sN ?_
 refine K9m hc 2 [(0,.ra 1000 0),(2,sL ctx2),(3,I deep3),(4,.bool data4),(6,.ra 1 0),(10,.ra 2 0),(11,.ra 4 0),(12,I a7),(23,.bool (decide (a7 < 3)))] ?_
 refine ic h (fun a8 h => ?_) fun a8 h => ?_
 ·refine sk ?_
  refine sN ?_
  refine bk 1 ?_
  refine sN ?_
  refine sN ?_
  obtain ⟨a9,b1,h⟩ := Qdd h
  refine Wp.into (x := .normal) (mkS [(0,.ra 1000 0),(2,sL ctx2),(3,I deep3),(4,.bool data4),(6,.ra 1 0),(10,.ra 2 0),(11,.ra 4 0),(12,I a7),(36,.bool a9)] [(1,K1v s1),(2,.box [I 0,I 0,.nils,.nils]),(4,.box [I a3,I a4,sI a5,.sl (List.map K0h a6)]),(1000,.box [.sl (List.map U8 a0),I a1,I a2])]) ?_ ?_
  ·replace h := b1
   obtain ⟨b2,b3,h⟩ := Qdd h
   rcases is h with ⟨b4,h⟩ | ⟨b4,h⟩
   ·obtain ⟨b5,b6,h⟩ := Qdd h
    refine rgs hc none [oN,oc (I b2),oN,oN,oN,oN,oN,oc (K22 b5),oN,oN,oT] [(0,.ra 1000 0),(2,sL ctx2),(3,I deep3),(4,.bool data4),(6,.ra 1 0),(10,.ra 2 0),(11,.ra 4 0),(12,I a7),(36,.bool (b5.ffault == 0))] (cq (Khr _ _ b3) K64 (ar 4 b4 (cq (Kg7 _ _ b6) K5s (ar 3 b4 tv)))) ?_
    obtain rfl := os h
    exact Qcz.mk
   refine rgs hc none [oN,oc (I b2),oN,oN,o_,o_,o_,o_,o_,o_,oF] [(0,.ra 1000 0),(2,sL ctx2),(3,I deep3),(4,.bool data4),(6,.ra 1 0),(10,.ra 2 0),(11,.ra 4 0),(12,I a7),(36,.bool false)] (cq (Khr _ _ b3) K64 (ar 6 (neT b4) (ai b4 tv))) ?_
   obtain rfl := os h
   exact Qcz.mk
  clear b1
  refine ic h (fun b7 h => ?_) fun b7 h => ?_
  ·refine rs0 hc 2 [(10,.ra 2 0)] [(2,.box [I a3,I a4,sI a5,.sl (List.map K0h a6)]),(1000,.box [.sl (List.map U8 a0),I a1,I a2])] ?_
   refine rt ?_
   obtain rfl := os h
   exact Qdb.ret (fl := [false]) (by kernel_rfl)
  refine sk ?_
  obtain ⟨⟨b8,b9⟩,c1,h⟩ := Qdd h
  obtain ⟨c2,c3,⟨c4,c5⟩,c6,h⟩ := bq2 h
  refine rg hc (rx [[0],[0],[0],[0],[0],[0],[0,3,4,5],[0],[0,3,4,5,6,7],[9],[10]]) [oN,oN,oN,oN,oN,oN,some (.call (sI b8) [.optr [.sl (List.map U8 b9.fb),I b9.fi,I b9.fh],.undef,.undef,.undef] 1),oN,oc (I c2),some (.call (K1y c4) [.optr [.sl (List.map U8 c5.fb),I c5.fi,I c5.fh],.undef,.undef,.undef,.undef] 1),oN] [(0,.ra 1000 0),(2,sL ctx2),(3,I deep3),(4,.bool data4),(6,.ra 1 0),(10,.ra 2 0),(11,.ra 4 0),(12,I a7)] [(1,K1v s1),(2,.box [I 0,I 0,.nils,.nils]),(4,K1x c4),(1000,K1z c5)] (ab (Q71.res (r2 := sI b8) (by simp only [share,Q02,Qe5]) (Q71.shr (Kdv _ _ c1))) K4i (cq (Ka0 _ _ c3) K38 (ab (Khh _ _ c6) K4u tv))) ?_
  refine K9l hc 3 [(0,.ra 1000 0),(2,sL ctx2),(3,I deep3),(4,.bool data4),(6,.ra 1 0),(10,.ra 2 0),(11,.ra 4 0),(12,I (wr (a7 + 1)))] ?_
  refine Qcv ?_
  exact (spec_dIn_l0_ih _ _ h c hc)
 refine xt 0 ?_
 refine Qcp ?_
 refine Qcw ?_
 obtain rfl := os h
 exact iv []
def Khx (p : K02 × K00 × LL × Int × Bool) : Option (K01 × K02) :=
 match p with
 | (c0,s1,ctx2,deep3,data4) =>
  (Kdt (c0,s1,2,data4)) >>= fun (a0,a1) =>
  (Kh8 (a1,s1,ctx2,a0,deep3)) >>= fun (a2,a3) =>
  (Khu (c0,s1,ctx2,deep3,data4,a3.fb,a3.fi,a3.fh,a2.fOp,a2.fN,a2.fType,a2.fKids,0)) >>= fun fl => match fl with
  | .inl (a4,a5,a6,a7,a8,a9,b1) =>
   (Khm ((K01.mk a4 a5 a6 a7),400)) >>= fun b2 =>
   ((
   if (decide (b2 < 0)) = true then
   (Kea (1,1,[])) >>= fun b3 =>
   some ((b3.fOp,b3.fN,b3.fType,b3.fKids))
   else
   some ((a4,a5,a6,a7))
   ) : Option (Int × Int × (List Int) × (List K01))) >>= fun (b4,b5,b6,b7) =>
   some ((K01.mk b4 b5 b6 b7),(K02.mk a8 a9 b1))
  | .inr r =>
   some r
def Khy (p : K02 × K00 × LL × Int × Bool) (r : K01 × K02) : Prop :=
 match p with
 | (c0,s1,ctx2,deep3,data4) => Q71 Tryz.prog 201 [.optr [.sl (List.map U8 c0.fb),I c0.fi,I c0.fh],K1w s1,sL ctx2,I deep3,.bool data4] (.agg [I r.1.fOp,I r.1.fN,.sl (List.map I r.1.fType),.sl (List.map K0h r.1.fKids)]) [.optr [.sl (List.map U8 r.2.fb),I r.2.fi,I r.2.fh],.undef,.undef,.undef,.undef]
theorem Khz : ∀ p r,Khx p = some r → Khy p r := by
 rintro ⟨c0,s1,ctx2,deep3,data4⟩ r h
 unfold Khx at h
 refine Q71.bodyO K34 (fn := Tryz.f201) (code := K65) (by kernel_rfl) (by kernel_rfl) (by kernel_rfl) (nt := 53) (by kernel_rfl) (by kernel_rfl) (T := [(0,.ra 1000 0),(1,K1w s1),(2,sL ctx2),(3,I deep3),(4,.bool data4)]) (O := [(1000,K1z c0)]) (by kernel_rfl) (by kernel_rfl) (fun c hc => ?_)
 refine rs hc none [some (.new 1),some (.new 2)] [(0,.ra 1000 0),(2,sL ctx2),(3,I deep3),(4,.bool data4),(6,.ra 1 0),(10,.ra 2 0)] [(1,K1v s1),(2,.box [I 0,I 0,.nils,.nils]),(1000,K1z c0)] tv ?_
 obtain ⟨⟨a0,a1⟩,a2,h⟩ := Qdd h
 obtain ⟨⟨a3,a4⟩,a5,h⟩ := Qdd h
 refine rs hc (rx [[0],[0],[0],[0],[0],[0],[0,3,4,5],[0],[8],[0],[10]]) [oN,oN,oN,oN,oN,oN,some (.call (sI a0) [.optr [.sl (List.map U8 a1.fb),I a1.fi,I a1.fh],.undef,.undef,.undef] 1),oN,some (.call (K1y a3) [.optr [.sl (List.map U8 a4.fb),I a4.fi,I a4.fh],.undef,.undef,.undef,.undef] 1),some (.new 4),oN] [(0,.ra 1000 0),(2,sL ctx2),(3,I deep3),(4,.bool data4),(6,.ra 1 0),(10,.ra 2 0),(11,.ra 4 0)] [(1,K1v s1),(2,.box [I 0,I 0,.nils,.nils]),(4,K1x a3),(1000,K1z a4)] (ad (Q71.res (r2 := sI a0) (by simp only [share,Q02,Qe5]) (Q71.shr (Kdv _ _ a2))) K4i (Khh _ _ a5) K4u tv) ?_
 refine sN ?_
 refine K9m hc 1 [(0,.ra 1000 0),(2,sL ctx2),(3,I deep3),(4,.bool data4),(6,.ra 1 0),(10,.ra 2 0),(11,.ra 4 0),(12,I 0)] ?_
 refine bk 0 ?_
 obtain ⟨fl,a6,h⟩ := Qdd h
 have hL := Khw _ _ a6 c hc
 refine lp ?_
 rcases fl with ⟨a7,a8,a9,b1,b2,b3,b4⟩ | r
 ·refine WpL.into (e := (.exit 0)) (mkS [(10,.ra 2 0),(11,.ra 4 0)] [(2,.box [I 0,I 0,.nils,.nils]),(4,.box [I a7,I a8,sI a9,.sl (List.map K0h b1)]),(1000,.box [.sl (List.map U8 b2),I b3,I b4])]) hL ?_
  refine Qcr ?_
  refine sN ?_
  obtain ⟨b5,b6,h⟩ := Qdd h
  refine rss hc none [oN,oc (I b5),oN] [(10,.ra 2 0),(11,.ra 4 0),(50,.bool (decide (b5 < 0)))] (cq (Khr _ _ b6) K64 tv) ?_
  obtain ⟨⟨b7,b8,b9,c1⟩,c2,h⟩ := Qdd h
  refine Wp.into (x := .normal) (mkS [(10,.ra 2 0),(11,.ra 4 0)] [(2,.box [I 0,I 0,.nils,.nils]),(4,.box [I b7,I b8,sI b9,.sl (List.map K0h c1)]),(1000,.box [.sl (List.map U8 b2),I b3,I b4])]) ?_ ?_
  ·replace h := c2
   refine ic h (fun c3 h => ?_) fun c3 h => ?_
   ·obtain ⟨c4,c5,h⟩ := Qdd h
    refine rg hc none [oc (K1y c4),oN] [(10,.ra 2 0),(11,.ra 4 0)] [(2,.box [I 0,I 0,.nils,.nils]),(4,K1x c4),(1000,.box [.sl (List.map U8 b2),I b3,I b4])] (cq (Q71.args (A1 := [I 1,I 1,.sl []]) (A2 := [I 1,I 1,.sl (List.map K0h [])]) (by simp only [List.map_nil]) (Kec _ _ c5)) K4q tv) ?_
    obtain ⟨rfl,hq0⟩ := Prod.mk.inj (Option.some.inj h)
    obtain ⟨rfl,hq1⟩ := Prod.mk.inj (hq0)
    obtain ⟨rfl,rfl⟩ := Prod.mk.inj (hq1)
    exact Qcz.mk
   refine sk ?_
   obtain ⟨rfl,hq0⟩ := Prod.mk.inj (Option.some.inj h)
   obtain ⟨rfl,hq1⟩ := Prod.mk.inj (hq0)
   obtain ⟨rfl,rfl⟩ := Prod.mk.inj (hq1)
   exact iv []
  clear c2
  refine rs0 hc 2 [(10,.ra 2 0)] [(2,.box [I b7,I b8,sI b9,.sl (List.map K0h c1)]),(1000,.box [.sl (List.map U8 b2),I b3,I b4])] ?_
  refine rt ?_
  obtain rfl := os h
  exact Qda.ret (fl := [false]) (by kernel_rfl)
 refine WpL.mono hL ?_
 rintro _ _ ⟨rfl,hfin⟩
 obtain rfl := os h
 exact ⟨.inl rfl,hfin⟩
def Ki0 (p : K02 × Int × Int × Bool) : Option (K00 × LL × K01 × K02) :=
 match p with
 | (c0,deep1,most2,data3) =>
  (Kdj c0) >>= fun (a0,a1) =>
  (Ke0 (a1,a0,most2,data3)) >>= fun (a2,a3) =>
  (Khx (a3,a0,a2,deep1,data3)) >>= fun (a4,a5) =>
  some (a0,a2,a4,a5)
def Ki1 (p : K02 × Int × Int × Bool) (r : K00 × LL × K01 × K02) : Prop :=
 match p with
 | (c0,deep1,most2,data3) => Q71 Tryz.prog 137 [.optr [.sl (List.map U8 c0.fb),I c0.fi,I c0.fh],I deep1,I most2,.bool data3] (.tup [.agg [I r.1.fSize,.sl (List.map I r.1.fPlus),.sl (List.map I r.1.fTimes),.sl (List.map AV.bool r.1.fBelow)],.sl (List.map K14 r.2.1),.agg [I r.2.2.1.fOp,I r.2.2.1.fN,.sl (List.map I r.2.2.1.fType),.sl (List.map K0h r.2.2.1.fKids)]]) [.optr [.sl (List.map U8 r.2.2.2.fb),I r.2.2.2.fi,I r.2.2.2.fh],.undef,.undef,.undef]
theorem Ki2 : ∀ p r,Ki0 p = some r → Ki1 p r := by
 rintro ⟨c0,deep1,most2,data3⟩ r h
 unfold Ki0 at h
 refine Q71.bodyO K34 (fn := Tryz.f137) (code := K67) (by kernel_rfl) (by kernel_rfl) (by kernel_rfl) (nt := 28) (by kernel_rfl) (by kernel_rfl) (T := [(0,.ra 1000 0),(1,I deep1),(2,I most2),(3,.bool data3)]) (O := [(1000,K1z c0)]) (by kernel_rfl) (by kernel_rfl) (fun c hc => ?_)
 refine rs hc none [some (.new 1),oN,some (.new 2)] [(0,.ra 1000 0),(1,I deep1),(2,I most2),(3,.bool data3),(8,.ra 1 0),(10,.ra 2 0)] [(1,.box [I 0,.nils,.nils,.nils]),(2,.box [I 0,I 0,.nils,.nils]),(1000,K1z c0)] tv ?_
 obtain ⟨⟨a0,a1⟩,a2,h⟩ := Qdd h
 refine rs hc none [oN,some (.call (K27 a0) [.optr [.sl (List.map U8 a1.fb),I a1.fi,I a1.fh]] 3),some (.new 6),oN] [(0,.ra 1000 0),(1,I deep1),(2,I most2),(3,.bool data3),(8,.ra 1 0),(10,.ra 2 0),(11,.ra 6 0)] [(1,.box [I 0,.nils,.nils,.nils]),(2,.box [I 0,I 0,.nils,.nils]),(3,rI a0.fPlus),(4,rI a0.fTimes),(5,.arr (List.map AV.bool a0.fBelow)),(6,.box [I a0.fSize,.rs 3,.rs 4,.rs 5]),(1000,K1z a1)] (ab (Kdl _ _ a2) K4h tv) ?_
 refine sN ?_
 refine vz 3 (Qe5 a0.fPlus) [(0,.ra 1000 0),(1,I deep1),(2,I most2),(3,.bool data3),(8,.ra 1 0),(10,.ra 2 0),(11,.ra 6 0)] [(1,.box [I 0,.nils,.nils,.nils]),(2,.box [I 0,I 0,.nils,.nils]),(4,rI a0.fTimes),(5,.arr (List.map AV.bool a0.fBelow)),(6,.box [I a0.fSize,sI a0.fPlus,.rs 4,.rs 5]),(1000,K1z a1)] ?_
 refine vz 4 (Qe5 a0.fTimes) [(0,.ra 1000 0),(1,I deep1),(2,I most2),(3,.bool data3),(8,.ra 1 0),(10,.ra 2 0),(11,.ra 6 0)] [(1,.box [I 0,.nils,.nils,.nils]),(2,.box [I 0,I 0,.nils,.nils]),(5,.arr (List.map AV.bool a0.fBelow)),(6,.box [I a0.fSize,sI a0.fPlus,sI a0.fTimes,.rs 5]),(1000,K1z a1)] ?_
 refine vz 5 (Qe7 a0.fBelow) [(0,.ra 1000 0),(1,I deep1),(2,I most2),(3,.bool data3),(8,.ra 1 0),(10,.ra 2 0),(11,.ra 6 0)] [(1,.box [I 0,.nils,.nils,.nils]),(2,.box [I 0,I 0,.nils,.nils]),(6,K1v a0),(1000,K1z a1)] ?_
 obtain ⟨⟨a3,a4⟩,a5,h⟩ := Qdd h
 refine rg hc none [oN,oN,oN,oN,some (.call (.osl (List.map K10 a3)) [.optr [.sl (List.map U8 a4.fb),I a4.fi,I a4.fh],.undef,.undef,.undef] 7),oN] [(0,.ra 1000 0),(1,I deep1),(3,.bool data3),(8,.ra 1 0),(10,.ra 2 0),(11,.ra 6 0),(12,.rs 7)] [(1,.box [I 0,.nils,.nils,.nils]),(2,.box [I 0,I 0,.nils,.nils]),(6,K1v a0),(7,.arr (List.map K10 a3)),(1000,K1z a4)] (ab (Ke2 _ _ a5) K4m tv) ?_
 refine sN ?_
 refine vz 7 (K19 a3) [(0,.ra 1000 0),(1,I deep1),(3,.bool data3),(8,.ra 1 0),(10,.ra 2 0),(11,.ra 6 0),(12,sL a3)] [(1,.box [I 0,.nils,.nils,.nils]),(2,.box [I 0,I 0,.nils,.nils]),(6,K1v a0),(1000,K1z a4)] ?_
 obtain ⟨⟨a6,a7⟩,a8,h⟩ := Qdd h
 refine rg hc (rx [[0],[0],[0],[0],[0],[0],[0],[0,2,3,4,5,6],[1,2,3,4,5,6,7],[9],[10]]) [oN,oN,oN,oN,oN,oN,oN,some (.call (K1y a6) [.optr [.sl (List.map U8 a7.fb),I a7.fi,I a7.fh],.undef,.undef,.undef,.undef] 1),oN,oN,oN] [(8,.ra 1 0),(9,sL a3),(10,.ra 2 0)] [(1,K1v a0),(2,K1x a6),(1000,K1z a7)] (ab (Khz _ _ a8) K66 tv) ?_
 refine rt ?_
 obtain rfl := os h
 exact Qda.ret (fl := [false,false,false]) (by kernel_rfl)
def Ki3 (p : K00 × LL × K01) : Option ((List Int)) :=
 match p with
 | (s0,ctx1,t2) =>
  (Kfy (s0,ctx1,t2)) >>= fun a0 =>
  if (a0.ffault != 0) = true then
  some [0]
  else
  some a0.fty
def Ki4 (p : K00 × LL × K01) (r : (List Int)) : Prop :=
 match p with
 | (s0,ctx1,t2) => Q71 Tryz.prog 142 [K1w s0,sL ctx1,K1y t2] (sI r) []
theorem Ki5 : ∀ p r,Ki3 p = some r → Ki4 p r := by
 rintro ⟨s0,ctx1,t2⟩ r h
 unfold Ki3 at h
 refine b0 Tryz.f142 K69 18 [(0,K1w s0),(1,sL ctx1),(2,K1y t2)] fun c hc => ?_
 refine rs hc none [some (.new 1),some (.new 2),oN] [(1,sL ctx1),(3,.ra 1 0),(5,.ra 2 0)] [(1,K1v s0),(2,K1x t2)] tv ?_
 obtain ⟨a0,a1,h⟩ := Qdd h
 refine rs hc none [oN,oN,oN,oc (K22 a0),some (.new 3),oN] [(7,.ra 3 0)] [(3,K21 a0)] (cq (Kg7 _ _ a1) K5s tv) ?_
 refine sN ?_
 refine K9m hc 3 [(7,.ra 3 0),(14,.bool (a0.ffault != 0))] ?_
 refine ic h (fun a2 h => ?_) fun a2 h => ?_
 ·refine rs hc none [some (.mk 4 true),oN] [(6,.rs 4)] [(4,.arr (List.map I [0]))] tv ?_
  refine vz 4 (Qe5 [0]) [(6,.sl (List.map I [0]))] [] ?_
  refine rt ?_
  obtain rfl := os h
  exact rq [false]
 refine sk ?_
 refine rs0 hc 3 [(6,sI a0.fty)] [] ?_
 refine rt ?_
 obtain rfl := os h
 exact rq [false]
def Ki6 (p : K02 × (List Int)) : Option (Int × K02) :=
 match p with
 | (c0,list1) =>
  (Ka7 (c0,(list1.length : Int))) >>= fun (a0,a1) =>
  (idx list1 a0) >>= fun a2 =>
  some (a2,a1)
def Ki7 (p : K02 × (List Int)) (r : Int × K02) : Prop :=
 match p with
 | (c0,list1) => Q71 Tryz.prog 156 [.optr [.sl (List.map U8 c0.fb),I c0.fi,I c0.fh],sI list1] (I r.1) [.optr [.sl (List.map U8 r.2.fb),I r.2.fi,I r.2.fh],.undef]
theorem Ki8 : ∀ p r,Ki6 p = some r → Ki7 p r := by
 rintro ⟨c0,list1⟩ r h
 unfold Ki6 at h
 refine Q71.bodyO K34 (fn := Tryz.f156) (code := K6b) (by kernel_rfl) (by kernel_rfl) (by kernel_rfl) (nt := 12) (by kernel_rfl) (by kernel_rfl) (T := [(0,.ra 1000 0),(1,sI list1)]) (O := [(1000,K1z c0)]) (by kernel_rfl) (by kernel_rfl) (fun c hc => ?_)
 refine K9m hc 1 [(0,.ra 1000 0),(1,sI list1)] ?_
 obtain ⟨⟨a0,a1⟩,a2,h⟩ := Qdd h
 obtain ⟨a3,a4,h⟩ := Qdd h
 refine rs hc none [oN,oN,oN,some (.eqv (.no) ⟨[(8,I (list1.length : Int))],[],[]⟩),some (.call (I a0) [.optr [.sl (List.map U8 a1.fb),I a1.fi,I a1.fh],.undef] 1),some (.el (I a3)),oN,oN] [(4,I a3)] [(1000,K1z a1)] (ad (Qdj (d := 8) I list1) (Ka9 _ _ a2) K3d (ix a4) tv) ?_
 refine rt ?_
 obtain rfl := os h
 exact Qda.ret (fl := [true]) (by kernel_rfl)
def Ki9 (c0 : K02) : Option (Int × K02) :=
 (Ki6 (c0,[(-1),0,1,2,3,7,8,15,16,17,40,9223372036854775807,(-9223372036854775808)])) >>= fun (a0,a1) =>
 some (a0,a1)
def Kia (c0 : K02) (r : Int × K02) : Prop :=
 Q71 Tryz.prog 99 [.optr [.sl (List.map U8 c0.fb),I c0.fi,I c0.fh]] (I r.1) [.optr [.sl (List.map U8 r.2.fb),I r.2.fi,I r.2.fh]]
theorem Kib : ∀ p r,Ki9 p = some r → Kia p r := by
 rintro c0 r h
 unfold Ki9 at h
 refine Q71.bodyO K34 (fn := Tryz.f99) (code := B99) (by kernel_rfl) (by kernel_rfl) (by kernel_rfl) (nt := 6) (by kernel_rfl) (by kernel_rfl) (T := [(0,.ra 1000 0)]) (O := [(1000,K1z c0)]) (by kernel_rfl) (by kernel_rfl) (fun c hc => ?_)
 refine K9m hc 1 [(0,.ra 1000 0)] ?_
 obtain ⟨⟨a0,a1⟩,a2,h⟩ := Qdd h
 refine rs hc none [oN,some (.call .undef [] 2),some (.call (I a0) [.optr [.sl (List.map U8 a1.fb),I a1.fi,I a1.fh],.undef] 1),oN] [(2,I a0)] [(1000,K1z a1)] (ab (Ki8 _ _ a2) K6c tv) ?_
 refine rt ?_
 obtain rfl := os h
 exact Qda.ret (fl := [true]) (by kernel_rfl)
def Kic (p : K02 × K00) : Option (Int × K02) :=
 match p with
 | (c0,s1) =>
  (Kaa (c0,30)) >>= fun (a0,a1) =>
  if a0 = true then
  (Ki9 a1) >>= fun (a2,a3) =>
  some (a2,a3)
  else
  (Ka7 (a1,s1.fSize)) >>= fun (a4,a5) =>
  some (a4,a5)
def Kid (p : K02 × K00) (r : Int × K02) : Prop :=
 match p with
 | (c0,s1) => Q71 Tryz.prog 204 [.optr [.sl (List.map U8 c0.fb),I c0.fi,I c0.fh],K1w s1] (I r.1) [.optr [.sl (List.map U8 r.2.fb),I r.2.fi,I r.2.fh],.undef]
theorem Kie : ∀ p r,Kic p = some r → Kid p r := by
 rintro ⟨c0,s1⟩ r h
 unfold Kic at h
 refine Q71.bodyO K34 (fn := Tryz.f204) (code := K6e) (by kernel_rfl) (by kernel_rfl) (by kernel_rfl) (nt := 13) (by kernel_rfl) (by kernel_rfl) (T := [(0,.ra 1000 0),(1,K1w s1)]) (O := [(1000,K1z c0)]) (by kernel_rfl) (by kernel_rfl) (fun c hc => ?_)
 refine rs hc none [some (.new 1),oN] [(0,.ra 1000 0),(3,.ra 1 0)] [(1,K1v s1),(1000,K1z c0)] tv ?_
 refine sN ?_
 obtain ⟨⟨a0,a1⟩,a2,h⟩ := Qdd h
 refine rs hc none [oN,some (.call (.bool a0) [.optr [.sl (List.map U8 a1.fb),I a1.fi,I a1.fh],.undef] 1)] [(0,.ra 1000 0),(3,.ra 1 0),(6,.bool a0)] [(1,K1v s1),(1000,K1z a1)] (ab (Kac _ _ a2) K3e tv) ?_
 refine ic h (fun a3 h => ?_) fun a3 h => ?_
 ·obtain ⟨⟨a4,a5⟩,a6,h⟩ := Qdd h
  refine rs hc none [oN,some (.call (I a4) [.optr [.sl (List.map U8 a5.fb),I a5.fi,I a5.fh]] 1),oN] [(4,I a4)] [(1000,K1z a5)] (ab (Kib _ _ a6) K6d tv) ?_
  refine rt ?_
  obtain rfl := os h
  exact Qda.ret (fl := [true]) (by kernel_rfl)
 refine sk ?_
 obtain ⟨⟨a7,a8⟩,a9,h⟩ := Qdd h
 refine rs hc none [oN,oN,oN,some (.call (I a7) [.optr [.sl (List.map U8 a8.fb),I a8.fi,I a8.fh],.undef] 1),oN] [(4,I a7)] [(1000,K1z a8)] (ab (Ka9 _ _ a9) K3d tv) ?_
 refine rt ?_
 obtain rfl := os h
 exact Qda.ret (fl := [true]) (by kernel_rfl)
def Kif (c : Ctx) : (List Int) × (List Int) × Int × Int → Exit → Q0a → Prop
 | (a0,a1,a2,a3) => Qcz c (.exit 0) (mkS [(7,.rs 2)] [(2,rI a0),(1000,.box [.sl (List.map U8 a1),I a2,I a3])])
def Kig (p : K00 × Int × (List Int) × Int × Int × (List Int) × Int) : Option ((List Int) × (List Int) × Int × Int) :=
 match p with
 | (s1,n2,a0,a1,a2,a3,a4) =>
  if (decide (a4 < n2)) = true then
  (Kic ((K02.mk a0 a1 a2),s1)) >>= fun (a5,a6) =>
  (Qdq (a3.length + [a5].length) 8) >>= fun _ =>
  Kig (s1,n2,a6.fb,a6.fi,a6.fh,(a3 ++ [a5]),(wr (a4 + 1)))
  else
  some ((a3,a0,a1,a2))
 partial_fixpoint
def Kih (p : K00 × Int × (List Int) × Int × Int × (List Int) × Int) (fl : (List Int) × (List Int) × Int × Int) : Prop :=
 match p with
 | (s1,n2,a0,a1,a2,a3,a4) => ∀ c : Ctx,c.nt = 22 → WpL Tryz.prog c (cl (cl (cr (cl (cr (cr K6g)))))) (Kif c fl) (mkS [(0,.ra 1000 0),(2,I n2),(4,.ra 1 0),(7,.rs 2),(8,I a4)] [(1,K1v s1),(2,rI a3),(1000,.box [.sl (List.map U8 a0),I a1,I a2])])
theorem Kii : ∀ p r,Kig p = some r → Kih p r := by
 refine Kig.partial_correctness Kih ?_
 rintro spec_dGrades_l0_f spec_dGrades_l0_ih ⟨s1,n2,a0,a1,a2,a3,a4⟩ r h
 intro c hc
 refine WpL.step ?_
 refine sN ?_
 refine K9m hc 3 [(0,.ra 1000 0),(2,I n2),(4,.ra 1 0),(7,.rs 2),(8,I a4),(12,.bool (decide (a4 < n2)))] ?_
 refine ic h (fun a5 h => ?_) fun a5 h => ?_
 ·refine sk ?_
  refine sN ?_
  refine bk 1 ?_
  obtain ⟨⟨a6,a7⟩,a8,h⟩ := Qdd h
  obtain ⟨_,a9,h⟩ := Qdd h
  refine rg hc none [oN,oN,oN,some (.call (I a6) [.optr [.sl (List.map U8 a7.fb),I a7.fi,I a7.fh],.undef] 1),some (.mk 5 true),some (.eqv (.mk 6 true) ⟨[(20,.rs 6)],[(6,some (rI (a3 ++ [a6]))),(2,none),(5,none)],[6]⟩),oN] [(0,.ra 1000 0),(2,I n2),(4,.ra 1 0),(7,.rs 6),(8,I a4)] [(1,K1v s1),(6,rI (a3 ++ [a6])),(1000,K1z a7)] (ad (Kie _ _ a8) K6f (congrArg (fun z => (⟨[(20,.rs 6)],[(6,some (.arr z)),(2,none),(5,none)],[6]⟩ : Wr)) ((List.map_append).symm : (List.map I a3) ++ (List.map I [a6]) = List.map I (a3 ++ [a6]))) (Qdr (enc1 := I) (enc2 := I) (e1 := a3) (e2 := [a6]) (sz := 1) Qe0 Qe0 a9) tv) ?_
  refine K9l hc 3 [(0,.ra 1000 0),(2,I n2),(4,.ra 1 0),(7,.rs 6),(8,I (wr (a4 + 1)))] ?_
  refine Qcv ?_
  exact WpL.view (fun a w hv => SRx.renL [(2,6)] hv (by kernel_rfl) (by kernel_rfl) (by kernel_rfl)) (spec_dGrades_l0_ih _ _ h c hc)
 refine xt 0 ?_
 refine Qcp ?_
 refine Qcw ?_
 obtain ⟨rfl,hq0⟩ := Prod.mk.inj (Option.some.inj h)
 obtain ⟨rfl,hq1⟩ := Prod.mk.inj (hq0)
 obtain ⟨rfl,rfl⟩ := Prod.mk.inj (hq1)
 exact iv []
def Kij (p : K02 × K00 × Int) : Option ((List Int) × K02) :=
 match p with
 | (c0,s1,n2) =>
  (Kig (s1,n2,c0.fb,c0.fi,c0.fh,[],0)) >>= fun (a0,a1,a2,a3) =>
  some (a0,(K02.mk a1 a2 a3))
def Kik (p : K02 × K00 × Int) (r : (List Int) × K02) : Prop :=
 match p with
 | (c0,s1,n2) => Q71 Tryz.prog 143 [.optr [.sl (List.map U8 c0.fb),I c0.fi,I c0.fh],K1w s1,I n2] (oI r.1) [.optr [.sl (List.map U8 r.2.fb),I r.2.fi,I r.2.fh],.undef,.undef]
theorem Kil : ∀ p r,Kij p = some r → Kik p r := by
 rintro ⟨c0,s1,n2⟩ r h
 unfold Kij at h
 refine Q71.bodyO K34 (fn := Tryz.f143) (code := K6g) (by kernel_rfl) (by kernel_rfl) (by kernel_rfl) (nt := 22) (by kernel_rfl) (by kernel_rfl) (T := [(0,.ra 1000 0),(1,K1w s1),(2,I n2)]) (O := [(1000,K1z c0)]) (by kernel_rfl) (by kernel_rfl) (fun c hc => ?_)
 refine rs hc none [some (.new 1),oN] [(0,.ra 1000 0),(2,I n2),(4,.ra 1 0)] [(1,K1v s1),(1000,K1z c0)] tv ?_
 refine rs hc none [some (.mk 2 true),oN] [(0,.ra 1000 0),(2,I n2),(4,.ra 1 0),(7,.rs 2)] [(1,K1v s1),(2,.arr (List.map I [])),(1000,K1z c0)] tv ?_
 refine sN ?_
 refine K9m hc 1 [(0,.ra 1000 0),(2,I n2),(4,.ra 1 0),(7,.rs 2),(8,I 0)] ?_
 refine bk 0 ?_
 obtain ⟨⟨a0,a1,a2,a3⟩,a4,h⟩ := Qdd h
 have hL := Kii _ _ a4 c hc
 refine lp ?_
 refine WpL.into (e := (.exit 0)) (mkS [(7,.rs 2)] [(2,rI a0),(1000,.box [.sl (List.map U8 a1),I a2,I a3])]) hL ?_
 refine Qcr ?_
 refine K9m hc 2 [(6,.rs 2)] ?_
 refine rt ?_
 obtain rfl := os h
 exact Qda.ret (fl := [true]) (by kernel_rfl)
def Kim (c : Ctx) (a0 : K00) (a1 : LL) (a2 : K01) : (List Int) × Int × Int × (List Int) → Exit → Q0a → Prop
 | (a3,a4,a5,a6) => Qcz c (.exit 0) (mkS [(2,.ra 1 0),(5,.ra 2 0),(7,.ra 3 0),(8,.ra 4 0),(9,sL a1),(10,.ra 5 0),(11,.rs 6)] [(1,.box [I 0,.nils,.nils,.nils]),(2,.box [I 0,I 0,.nils,.nils]),(3,.box [.sl (List.map U8 a3),I a4,I a5]),(4,K1v a0),(5,K1x a2),(6,rI a6)])
def Kin (p : K00 × LL × K01 × (List Int) × Int × Int × (List Int) × Int) : Option ((List Int) × Int × Int × (List Int)) :=
 match p with
 | (a0,a1,a2,a3,a4,a5,a6,a7) =>
  if (decide (a7 < (a1.length : Int))) = true then
  (Kgb (a0,a1,a2,a7)) >>= fun a8 =>
  (Kgi ((K02.mk a3 a4 a5),a0,a8)) >>= fun (a9,b1) =>
  (Qdq (a6.length + [a9].length) 8) >>= fun _ =>
  Kin (a0,a1,a2,b1.fb,b1.fi,b1.fh,(a6 ++ [a9]),(wr (a7 + 1)))
  else
  some ((a3,a4,a5,a6))
 partial_fixpoint
def Kio (p : K00 × LL × K01 × (List Int) × Int × Int × (List Int) × Int) (fl : (List Int) × Int × Int × (List Int)) : Prop :=
 match p with
 | (a0,a1,a2,a3,a4,a5,a6,a7) => ∀ c : Ctx,c.nt = 72 → WpL Tryz.prog c (cl (cl (cr (cl (cr (cr (cr (cr B63)))))))) (Kim c a0 a1 a2 fl) (mkS [(2,.ra 1 0),(5,.ra 2 0),(7,.ra 3 0),(8,.ra 4 0),(9,sL a1),(10,.ra 5 0),(11,.rs 6),(12,I a7)] [(1,.box [I 0,.nils,.nils,.nils]),(2,.box [I 0,I 0,.nils,.nils]),(3,.box [.sl (List.map U8 a3),I a4,I a5]),(4,K1v a0),(5,K1x a2),(6,rI a6)])
theorem Kip : ∀ p r,Kin p = some r → Kio p r := by
 refine Kin.partial_correctness Kio ?_
 rintro spec_DrawFits_l0_f spec_DrawFits_l0_ih ⟨a0,a1,a2,a3,a4,a5,a6,a7⟩ r h
 intro c hc
 refine WpL.step ?_
 refine sN ?_
 refine rss hc none [oN,oN,some (.eqv (.no) ⟨[(29,I (a1.length : Int))],[],[]⟩),oN] [(2,.ra 1 0),(5,.ra 2 0),(7,.ra 3 0),(8,.ra 4 0),(9,sL a1),(10,.ra 5 0),(11,.rs 6),(12,I a7),(30,.bool (decide (a7 < (a1.length : Int))))] (ai (Qdj (d := 29) K14 a1) tv) ?_
 refine ic h (fun a8 h => ?_) fun a8 h => ?_
 ·refine sk ?_
  refine sN ?_
  refine bk 1 ?_
  obtain ⟨a9,b1,⟨b2,b3⟩,b4,h⟩ := bq2 h
  obtain ⟨_,b5,h⟩ := Qdd h
  refine rg hc (rx [[0],[0],[0],[0],[0],[0],[0],[0,3,4,5,6],[0,1,2,3,4,5,6,7],[0,1,2,3,4,5,6,7,8],[10],[11]]) [oN,oN,oN,oN,oN,oN,oN,oc (I a9),some (.call (I b2) [.optr [.sl (List.map U8 b3.fb),I b3.fi,I b3.fh],.undef,.undef] 1),some (.mk 9 true),some (.eqv (.mk 10 true) ⟨[(43,.rs 10)],[(10,some (rI (a6 ++ [b2]))),(6,none),(9,none)],[10]⟩),oN] [(2,.ra 1 0),(5,.ra 2 0),(7,.ra 3 0),(8,.ra 4 0),(9,sL a1),(10,.ra 5 0),(11,.rs 10),(12,I a7)] [(1,.box [I 0,.nils,.nils,.nils]),(2,.box [I 0,I 0,.nils,.nils]),(3,K1z b3),(4,K1v a0),(5,K1x a2),(10,rI (a6 ++ [b2]))] (cq (Kgd _ _ b1) K5w (ad (Kgk _ _ b4) K5y (congrArg (fun z => (⟨[(43,.rs 10)],[(10,some (.arr z)),(6,none),(9,none)],[10]⟩ : Wr)) ((List.map_append).symm : (List.map I a6) ++ (List.map I [b2]) = List.map I (a6 ++ [b2]))) (Qdr (enc1 := I) (enc2 := I) (e1 := a6) (e2 := [b2]) (sz := 1) Qe0 Qe0 b5) tv)) ?_
  refine K9l hc 3 [(2,.ra 1 0),(5,.ra 2 0),(7,.ra 3 0),(8,.ra 4 0),(9,sL a1),(10,.ra 5 0),(11,.rs 10),(12,I (wr (a7 + 1)))] ?_
  refine Qcv ?_
  exact WpL.view (fun a w hv => SRx.renL [(6,10)] hv (by kernel_rfl) (by kernel_rfl) (by kernel_rfl)) (spec_DrawFits_l0_ih _ _ h c hc)
 refine xt 0 ?_
 refine Qcp ?_
 refine Qcw ?_
 obtain ⟨rfl,hq0⟩ := Prod.mk.inj (Option.some.inj h)
 obtain ⟨rfl,hq1⟩ := Prod.mk.inj (hq0)
 obtain ⟨rfl,rfl⟩ := Prod.mk.inj (hq1)
 exact iv []
def Kiq (code0 : (List Int)) : Option (K00 × LL × (List Int) × K01 × (List Int)) :=
 (K9v code0) >>= fun a0 =>
 (Ka1 code0) >>= fun a1 =>
 (Kaa (a0,2)) >>= fun (a2,a3) =>
 (Ki0 (a3,a1,3,a2)) >>= fun (a4,a5,a6,a7) =>
 (Kin (a4,a5,a6,a7.fb,a7.fi,a7.fh,[],0)) >>= fun (a8,a9,b1,b2) =>
 (Ki3 (a4,a5,a6)) >>= fun b3 =>
 (Ka7 ((K02.mk a8 a9 b1),8)) >>= fun (b4,b5) =>
 ((
 if (b4 == 0) = true then
 (Kij (b5,a4,(a5.length : Int))) >>= fun (b6,b7) =>
 some ((b6,b3))
 else
 ((
 if (b4 == 1) = true then
 (Qdq (b2.length + [0].length) 8) >>= fun _ =>
 some (((b2 ++ [0]),b3))
 else
 ((
 if (b4 == 2) = true then
 (Kdt (b5,a4,2,true)) >>= fun (b8,b9) =>
 some (b8)
 else
 some (b3)
 ) : Option ((List Int))) >>= fun c0 =>
 some ((b2,c0))
 ) : Option ((List Int) × (List Int))) >>= fun (c1,c2) =>
 some ((c1,c2))
 ) : Option ((List Int) × (List Int))) >>= fun (c3,c4) =>
 some (a4,a5,c3,a6,c4)
def Kir (code0 : (List Int)) (r : K00 × LL × (List Int) × K01 × (List Int)) : Prop :=
 Q71 Tryz.prog 63 [.sl (List.map U8 code0)] (.tup [.agg [I r.1.fSize,.sl (List.map I r.1.fPlus),.sl (List.map I r.1.fTimes),.sl (List.map AV.bool r.1.fBelow)],.sl (List.map K14 r.2.1),.osl (List.map I r.2.2.1),.agg [I r.2.2.2.1.fOp,I r.2.2.2.1.fN,.sl (List.map I r.2.2.2.1.fType),.sl (List.map K0h r.2.2.2.1.fKids)],.sl (List.map I r.2.2.2.2)]) []
theorem Kis : ∀ p r,Kiq p = some r → Kir p r := by
 rintro code0 r h
 unfold Kiq at h
 refine b0 Tryz.f63 B63 72 [(0,.sl (List.map U8 code0))] fun c hc => ?_
 refine rs hc none [some (.new 1),oN,oN,some (.new 2),oN] [(0,.sl (List.map U8 code0)),(2,.ra 1 0),(5,.ra 2 0)] [(1,.box [I 0,.nils,.nils,.nils]),(2,.box [I 0,I 0,.nils,.nils])] tv ?_
 obtain ⟨a0,a1,h⟩ := Qdd h
 refine rs hc none [oN,some (.call (.optr [.sl (List.map U8 a0.fb),I a0.fi,I a0.fh]) [.tup []] 3),oN] [(0,.sl (List.map U8 code0)),(2,.ra 1 0),(5,.ra 2 0),(7,.ra 3 0)] [(1,.box [I 0,.nils,.nils,.nils]),(2,.box [I 0,I 0,.nils,.nils]),(3,K1z a0)] (ab (K9x _ _ a1) K36 tv) ?_
 obtain ⟨a2,a3,⟨a4,a5⟩,a6,h⟩ := bq2 h
 obtain ⟨⟨a7,a8,a9,b1⟩,b2,h⟩ := Qdd h
 refine rs hc none [oN,oN,oc (I a2),oN,some (.call (.bool a4) [.optr [.sl (List.map U8 a5.fb),I a5.fi,I a5.fh],.undef] 1),some (.call (.tup [K1w a7,sL a8,K1y a9]) [.optr [.sl (List.map U8 b1.fb),I b1.fi,I b1.fh],.undef,.undef,.undef] 1),oN,oN,oN,oN,some (.new 4),some (.new 5),oN,oN,oN] [(2,.ra 1 0),(5,.ra 2 0),(7,.ra 3 0),(8,.ra 4 0),(9,sL a8),(10,.ra 5 0)] [(1,.box [I 0,.nils,.nils,.nils]),(2,.box [I 0,I 0,.nils,.nils]),(3,K1z b1),(4,K1v a7),(5,K1x a9)] (cq (Ka3 _ _ a3) K3a (ad (Kac _ _ a6) K3e (Ki2 _ _ b2) K68 tv)) ?_
 refine rs hc none [some (.mk 6 true),oN] [(2,.ra 1 0),(5,.ra 2 0),(7,.ra 3 0),(8,.ra 4 0),(9,sL a8),(10,.ra 5 0),(11,.rs 6)] [(1,.box [I 0,.nils,.nils,.nils]),(2,.box [I 0,I 0,.nils,.nils]),(3,K1z b1),(4,K1v a7),(5,K1x a9),(6,.arr (List.map I []))] tv ?_
 refine sN ?_
 refine K9m hc 1 [(2,.ra 1 0),(5,.ra 2 0),(7,.ra 3 0),(8,.ra 4 0),(9,sL a8),(10,.ra 5 0),(11,.rs 6),(12,I 0)] ?_
 refine bk 0 ?_
 obtain ⟨⟨b3,b4,b5,b6⟩,b7,h⟩ := Qdd h
 have hL := Kip _ _ b7 c hc
 refine lp ?_
 refine WpL.into (e := (.exit 0)) (mkS [(2,.ra 1 0),(5,.ra 2 0),(7,.ra 3 0),(8,.ra 4 0),(9,sL a8),(10,.ra 5 0),(11,.rs 6)] [(1,.box [I 0,.nils,.nils,.nils]),(2,.box [I 0,I 0,.nils,.nils]),(3,.box [.sl (List.map U8 b3),I b4,I b5]),(4,K1v a7),(5,K1x a9),(6,rI b6)]) hL ?_
 refine Qcr ?_
 obtain ⟨b8,b9,h⟩ := Qdd h
 refine rss hc none [oN,oN,oN,oc (sI b8),oN] [(2,.ra 1 0),(5,.ra 2 0),(7,.ra 3 0),(8,.ra 4 0),(9,sL a8),(10,.ra 5 0),(11,.rs 6),(13,sI b8)] (cq (Ki5 _ _ b9) K6a tv) ?_
 refine sN ?_
 obtain ⟨⟨c0,c1⟩,c2,h⟩ := Qdd h
 refine rs hc none [oN,some (.call (I c0) [.optr [.sl (List.map U8 c1.fb),I c1.fi,I c1.fh],.undef] 1)] [(2,.ra 1 0),(5,.ra 2 0),(7,.ra 3 0),(8,.ra 4 0),(9,sL a8),(10,.ra 5 0),(11,.rs 6),(13,sI b8),(49,I c0)] [(1,.box [I 0,.nils,.nils,.nils]),(2,.box [I 0,I 0,.nils,.nils]),(3,K1z c1),(4,K1v a7),(5,K1x a9),(6,rI b6)] (ab (Ka9 _ _ c2) K3d tv) ?_
 refine bk 2 ?_
 refine K9m hc 2 [(2,.ra 1 0),(5,.ra 2 0),(7,.ra 3 0),(8,.ra 4 0),(9,sL a8),(10,.ra 5 0),(11,.rs 6),(13,sI b8),(49,I c0),(50,.bool (c0 == 0))] ?_
 obtain ⟨⟨c3,c4⟩,c5,h⟩ := Qdd h
 refine Wp.into (x := .normal) (mkS [(2,.ra 1 0),(5,.ra 2 0),(8,.ra 4 0),(9,sL a8),(10,.ra 5 0),(11,.rs 11),(13,sI c4)] [(1,.box [I 0,.nils,.nils,.nils]),(2,.box [I 0,I 0,.nils,.nils]),(4,K1v a7),(5,K1x a9),(11,rI c3)]) ?_ ?_
 ·replace h := c5
  refine ic h (fun c6 h => ?_) fun c6 h => ?_
  ·obtain ⟨⟨c7,c8⟩,c9,h⟩ := Qdd h
   refine rg hc none [oN,oN,oN,some (.eqv (.no) ⟨[(55,I (a8.length : Int))],[],[]⟩),some (.call (oI c7) [.optr [.sl (List.map U8 c8.fb),I c8.fi,I c8.fh],.undef,.undef] 11),oN] [(2,.ra 1 0),(5,.ra 2 0),(8,.ra 4 0),(9,sL a8),(10,.ra 5 0),(11,.rs 11),(13,sI b8)] [(1,.box [I 0,.nils,.nils,.nils]),(2,.box [I 0,I 0,.nils,.nils]),(4,K1v a7),(5,K1x a9),(11,rI c7)] (ac (Qdj (d := 55) K14 a8) (Kil _ _ c9) K6h tv) ?_
   obtain ⟨rfl,rfl⟩ := Prod.mk.inj (Option.some.inj h)
   exact Qcz.mk
  refine K9m hc 2 [(2,.ra 1 0),(5,.ra 2 0),(7,.ra 3 0),(8,.ra 4 0),(9,sL a8),(10,.ra 5 0),(11,.rs 6),(13,sI b8),(49,I c0),(57,.bool (c0 == 1))] ?_
  obtain ⟨⟨d0,d1⟩,d2,h⟩ := Qdd h
  refine Wp.into (x := .normal) (mkS [(2,.ra 1 0),(5,.ra 2 0),(8,.ra 4 0),(9,sL a8),(10,.ra 5 0),(11,.rs 13),(13,sI d1)] [(1,.box [I 0,.nils,.nils,.nils]),(2,.box [I 0,I 0,.nils,.nils]),(4,K1v a7),(5,K1x a9),(13,rI d0)]) ?_ ?_
  ·replace h := d2
   refine ic h (fun d3 h => ?_) fun d3 h => ?_
   ·obtain ⟨_,d4,h⟩ := Qdd h
    refine rg hc none [oN,some (.mk 12 true),some (.eqv (.mk 13 true) ⟨[(61,.rs 13)],[(13,some (rI (b6 ++ [0]))),(6,none),(12,none)],[13]⟩),oN] [(2,.ra 1 0),(5,.ra 2 0),(8,.ra 4 0),(9,sL a8),(10,.ra 5 0),(11,.rs 13),(13,sI b8)] [(1,.box [I 0,.nils,.nils,.nils]),(2,.box [I 0,I 0,.nils,.nils]),(4,K1v a7),(5,K1x a9),(13,rI (b6 ++ [0]))] (ab (congrArg (fun z => (⟨[(61,.rs 13)],[(13,some (.arr z)),(6,none),(12,none)],[13]⟩ : Wr)) ((List.map_append).symm : (List.map I b6) ++ (List.map I [0]) = List.map I (b6 ++ [0]))) (Qdr (enc1 := I) (enc2 := I) (e1 := b6) (e2 := [0]) (sz := 1) Qe0 Qe0 d4) tv) ?_
    obtain ⟨rfl,rfl⟩ := Prod.mk.inj (Option.some.inj h)
    exact Qcz.mk
   refine K9m hc 2 [(2,.ra 1 0),(5,.ra 2 0),(7,.ra 3 0),(8,.ra 4 0),(9,sL a8),(10,.ra 5 0),(11,.rs 6),(13,sI b8),(62,.bool (c0 == 2))] ?_
   obtain ⟨d5,d6,h⟩ := Qdd h
   refine Wp.into (x := .normal) (mkS [(2,.ra 1 0),(5,.ra 2 0),(8,.ra 4 0),(9,sL a8),(10,.ra 5 0),(11,.rs 6),(13,sI d5)] [(1,.box [I 0,.nils,.nils,.nils]),(2,.box [I 0,I 0,.nils,.nils]),(4,K1v a7),(5,K1x a9),(6,rI b6)]) ?_ ?_
   ·replace h := d6
    refine ic h (fun d7 h => ?_) fun d7 h => ?_
    ·obtain ⟨⟨d8,d9⟩,e0,h⟩ := Qdd h
     refine rg hc none [oN,oN,some (.call (oI d8) [.optr [.sl (List.map U8 d9.fb),I d9.fi,I d9.fh],.undef,.undef,.undef] 14),oN] [(2,.ra 1 0),(5,.ra 2 0),(8,.ra 4 0),(9,sL a8),(10,.ra 5 0),(11,.rs 6),(13,.rs 14)] [(1,.box [I 0,.nils,.nils,.nils]),(2,.box [I 0,I 0,.nils,.nils]),(4,K1v a7),(5,K1x a9),(6,rI b6),(14,rI d8)] (ab (Kdv _ _ e0) K4i tv) ?_
     obtain rfl := os h
     exact Qcz.view (fun a w hv => SRx.renL [] (SRx.frzC 14 (xs := List.map I d8) (xs' := List.map I d8) hv (by kernel_rfl) (Qe5 _)) (by kernel_rfl) (by kernel_rfl) (by kernel_rfl))
    refine sk ?_
    obtain rfl := os h
    exact iv []
   clear d6
   obtain ⟨rfl,rfl⟩ := Prod.mk.inj (Option.some.inj h)
   exact iv [(13,6)]
  clear d2
  obtain ⟨rfl,rfl⟩ := Prod.mk.inj (Option.some.inj h)
  exact iv [(11,13)]
 clear c5
 refine rs hc (rx [[0],[0],[0],[0],[0],[1],[2,5],[3,5,6],[4,5,6,7],[9]]) [oN,oN,oN,oN,oN,oN,oN,oN,oN,oN] [(2,.ra 1 0),(3,sL a8),(4,.rs 11),(5,.ra 2 0),(6,sI c4)] [(1,K1v a7),(2,K1x a9),(11,rI c3)] tv ?_
 refine rt ?_
 obtain rfl := os h
 exact rq [false,false,true,false,false]
def Kit (p : Int × Int × Int) : Option (Bool) :=
 match p with
 | (n0,low1,high2) =>
  ((
  if (decide (n0 ≥ low1)) = true then
  some ((decide (n0 ≤ high2)))
  else
  some (false)
  ) : Option (Bool)) >>= fun a0 =>
  some a0
def Kiu (p : Int × Int × Int) (r : Bool) : Prop :=
 match p with
 | (n0,low1,high2) => Q71 Tryz.prog 95 [I n0,I low1,I high2] (.bool r) []
theorem Kiv : ∀ p r,Kit p = some r → Kiu p r := by
 rintro ⟨n0,low1,high2⟩ r h
 unfold Kit at h
 refine b0 Tryz.f95 B95 15 [(0,I n0),(1,I low1),(2,I high2)] fun c hc => ?_
 refine rs0 hc 1 [(0,I n0),(1,I low1),(2,I high2)] [] ?_
 refine sN ?_
 obtain ⟨a0,a1,h⟩ := Qdd h
 refine Wp.into (x := .normal) (mkS [(6,.bool a0)] []) ?_ ?_
 ·replace h := a1
  rcases is h with ⟨a2,h⟩ | ⟨a2,h⟩
  ·refine rg hc none [oN,oN,oN,oN,oN,oN,oN,oT,oN] [(6,.bool (decide (n0 ≤ high2)))] [] (ar 4 a2 tv) ?_
   obtain rfl := os h
   exact Qcz.mk
  refine rg hc none [oN,oN,oN,oN,o_,o_,o_,oF,oN] [(6,.bool false)] [] (ar 3 (neT a2) (ai a2 tv)) ?_
  obtain rfl := os h
  exact Qcz.mk
 clear a1
 refine rt ?_
 obtain rfl := os h
 exact rq [true]
def Kiw (p : K00 × Int) : Option (Bool) :=
 match p with
 | (s0,g1) =>
  (Kit (g1,0,(wr (s0.fSize - 1)))) >>= fun a0 =>
  some a0
def Kix (p : K00 × Int) (r : Bool) : Prop :=
 match p with
 | (s0,g1) => Q71 Tryz.prog 145 [K1w s0,I g1] (.bool r) []
theorem Kiy : ∀ p r,Kiw p = some r → Kix p r := by
 rintro ⟨s0,g1⟩ r h
 unfold Kiw at h
 refine b0 Tryz.f145 K6k 10 [(0,K1w s0),(1,I g1)] fun c hc => ?_
 refine rs hc none [some (.new 1),oN] [(1,I g1),(2,.ra 1 0)] [(1,K1v s0)] tv ?_
 obtain ⟨a0,a1,h⟩ := Qdd h
 refine rs hc none [oN,oN,oN,oN,oc (.bool a0),oN] [(4,.bool a0)] [] (cq (Kiv _ _ a1) K6j tv) ?_
 refine rt ?_
 obtain rfl := os h
 exact rq [true]
def Kiz (p : K00 × Int × Int) : Option (Int) :=
 match p with
 | (s0,a1,b2) =>
  (idx s0.fPlus (wr ((wr (a1 * s0.fSize)) + b2))) >>= fun a0 =>
  some a0
def Kj0 (p : K00 × Int × Int) (r : Int) : Prop :=
 match p with
 | (s0,a1,b2) => Q71 Tryz.prog 160 [K1w s0,I a1,I b2] (I r) []
theorem Kj1 : ∀ p r,Kiz p = some r → Kj0 p r := by
 rintro ⟨s0,a1,b2⟩ r h
 unfold Kiz at h
 refine b0 Tryz.f160 K6m 17 [(0,K1w s0),(1,I a1),(2,I b2)] fun c hc => ?_
 refine rs hc none [some (.new 1),oN] [(1,I a1),(2,I b2),(3,.ra 1 0)] [(1,K1v s0)] tv ?_
 obtain ⟨a0,a2,h⟩ := Qdd h
 refine rs hc none [oN,oN,oN,oN,oN,oN,oN,oN,some (.el (I a0)),oN,oN] [(6,I a0)] [] (ai (ix a2) tv) ?_
 refine rt ?_
 obtain rfl := os h
 exact rq [true]
def Kj2 (p : K00 × Int × Int) : Option (Int) :=
 match p with
 | (s0,a1,b2) =>
  (idx s0.fTimes (wr ((wr (a1 * s0.fSize)) + b2))) >>= fun a0 =>
  some a0
def Kj3 (p : K00 × Int × Int) (r : Int) : Prop :=
 match p with
 | (s0,a1,b2) => Q71 Tryz.prog 161 [K1w s0,I a1,I b2] (I r) []
theorem Kj4 : ∀ p r,Kj2 p = some r → Kj3 p r := by
 rintro ⟨s0,a1,b2⟩ r h
 unfold Kj2 at h
 refine b0 Tryz.f161 K6o 17 [(0,K1w s0),(1,I a1),(2,I b2)] fun c hc => ?_
 refine rs hc none [some (.new 1),oN] [(1,I a1),(2,I b2),(3,.ra 1 0)] [(1,K1v s0)] tv ?_
 obtain ⟨a0,a2,h⟩ := Qdd h
 refine rs hc none [oN,oN,oN,oN,oN,oN,oN,oN,some (.el (I a0)),oN,oN] [(6,I a0)] [] (ai (ix a2) tv) ?_
 refine rt ?_
 obtain rfl := os h
 exact rq [true]
def Kj5 (p : K00 × Int × Int) : Option (Bool) :=
 match p with
 | (s0,a1,b2) =>
  (idx s0.fBelow (wr ((wr (a1 * s0.fSize)) + b2))) >>= fun a0 =>
  some a0
def Kj6 (p : K00 × Int × Int) (r : Bool) : Prop :=
 match p with
 | (s0,a1,b2) => Q71 Tryz.prog 89 [K1w s0,I a1,I b2] (.bool r) []
theorem Kj7 : ∀ p r,Kj5 p = some r → Kj6 p r := by
 rintro ⟨s0,a1,b2⟩ r h
 unfold Kj5 at h
 refine b0 Tryz.f89 B89 17 [(0,K1w s0),(1,I a1),(2,I b2)] fun c hc => ?_
 refine rs hc none [some (.new 1),oN] [(1,I a1),(2,I b2),(3,.ra 1 0)] [(1,K1v s0)] tv ?_
 obtain ⟨a0,a2,h⟩ := Qdd h
 refine rs hc none [oN,oN,oN,oN,oN,oN,oN,oN,some (.el (.bool a0)),oN,oN] [(6,.bool a0)] [] (ai (Qdh (enc := AV.bool) (x := .bool a0) a2 (Qdu a0)) tv) ?_
 refine rt ?_
 obtain rfl := os h
 exact rq [true]
def Kj8 (c : Ctx) (s0 : K00) (a1 : Int) (b2 : Int) (a0 : Int) : Bool → Exit → Q0a → Prop
 | a2 => Qcz c (.exit 2) (mkS [(1,I a1),(2,I b2),(3,.ra 1 0),(7,I a0),(8,.bool a2)] [(1,K1v s0)])
def Kj9 (p : K00 × Int × Int × Int × Bool × Int) : Option (Bool) :=
 match p with
 | (s0,a1,b2,a0,a2,a3) =>
  if (decide (a3 < s0.fSize)) = true then
  ((
  if a2 = true then
  (Kj5 (s0,a1,a3)) >>= fun a4 =>
  if a4 = true then
  (Kj5 (s0,b2,a3)) >>= fun a5 =>
  if a5 = true then
  (Kj5 (s0,a0,a3)) >>= fun a6 =>
  some (a6)
  else
  some (true)
  else
  some (true)
  else
  some (false)
  ) : Option (Bool)) >>= fun a7 =>
  Kj9 (s0,a1,b2,a0,a7,(wr (a3 + 1)))
  else
  some (a2)
 partial_fixpoint
def Kja (p : K00 × Int × Int × Int × Bool × Int) (fl : Bool) : Prop :=
 match p with
 | (s0,a1,b2,a0,a2,a3) => ∀ c : Ctx,c.nt = 57 → WpL Tryz.prog c (cl (cl (cr (cl (cr (cr (cl (cl (cr (cl (cl (cr (cl (cr K6r)))))))))))))) (Kj8 c s0 a1 b2 a0 fl) (mkS [(1,I a1),(2,I b2),(3,.ra 1 0),(7,I a0),(8,.bool a2),(9,I a3)] [(1,K1v s0)])
theorem Kjb : ∀ p r,Kj9 p = some r → Kja p r := by
 refine Kj9.partial_correctness Kja ?_
 rintro impl_Systemjoin_l0_f impl_Systemjoin_l0_ih ⟨s0,a1,b2,a0,a2,a3⟩ r h
 intro c hc
 refine WpL.step ?_
 refine sN ?_
 refine K9m hc 4 [(1,I a1),(2,I b2),(3,.ra 1 0),(7,I a0),(8,.bool a2),(9,I a3),(31,.bool (decide (a3 < s0.fSize)))] ?_
 refine ic h (fun a4 h => ?_) fun a4 h => ?_
 ·refine sk ?_
  refine sN ?_
  refine bk 3 ?_
  obtain ⟨a5,a6,h⟩ := Qdd h
  refine Wp.into (x := .normal) (mkS [(1,I a1),(2,I b2),(3,.ra 1 0),(7,I a0),(8,.bool a5),(9,I a3)] [(1,K1v s0)]) ?_ ?_
  ·replace h := a6
   rcases is h with ⟨a7,h⟩ | ⟨a7,h⟩
   ·obtain ⟨a8,a9,h⟩ := Qdd h
    rcases is h with ⟨b1,h⟩ | ⟨b1,h⟩
    ·obtain ⟨b3,b4,h⟩ := Qdd h
     rcases is h with ⟨b5,h⟩ | ⟨b5,h⟩
     ·obtain ⟨b6,b7,h⟩ := Qdd h
      refine rgs hc none [oN,oN,oN,oN,oN,oc (.bool a8),oN,oN,oN,oN,oN,oc (.bool b3),oN,oF,oN,oN,oN,oN,oc (.bool b6),oF,oT,oN] [(1,I a1),(2,I b2),(3,.ra 1 0),(7,I a0),(8,.bool b6),(9,I a3)] (ar 4 a7 (cq (Kj7 _ _ a9) K6q (ar 2 a7 (ar 4 (nF b1) (cq (Kj7 _ _ b4) K6q (ad (nF b1) a7 (nF b1) a7 (ar 4 (nF b5) (cq (Kj7 _ _ b7) K6q (ac a7 (nF b5) a7 tv))))))))) ?_
      obtain rfl := os h
      exact Qcz.mk
     refine rgs hc none [oN,oN,oN,oN,oN,oc (.bool a8),oN,oN,oN,oN,oN,oc (.bool b3),oN,oF,oN,o_,o_,o_,o_,oT,oT,oN] [(1,I a1),(2,I b2),(3,.ra 1 0),(7,I a0),(8,.bool true),(9,I a3)] (ar 4 a7 (cq (Kj7 _ _ a9) K6q (ar 2 a7 (ar 4 (nF b1) (cq (Kj7 _ _ b4) K6q (ad (nF b1) a7 (nF b1) a7 (ar 4 (neF (nT b5)) (ac a7 (nT b5) a7 tv)))))))) ?_
     obtain rfl := os h
     exact Qcz.mk
    refine rgs hc none [oN,oN,oN,oN,oN,oc (.bool a8),oN,oN,o_,o_,o_,o_,o_,oT,oN,o_,o_,o_,o_,oT,oT,oN] [(1,I a1),(2,I b2),(3,.ra 1 0),(7,I a0),(8,.bool true),(9,I a3)] (ar 4 a7 (cq (Kj7 _ _ a9) K6q (ar 2 a7 (ar 5 (neF (nT b1)) (ac a7 (nT b1) a7 (ar 4 nf (ac a7 tt a7 tv))))))) ?_
    obtain rfl := os h
    exact Qcz.mk
   refine rgs hc none [oN,oN,o_,o_,o_,o_,o_,o_,o_,o_,o_,o_,o_,o_,o_,o_,o_,o_,o_,o_,oF,oN] [(1,I a1),(2,I b2),(3,.ra 1 0),(7,I a0),(8,.bool false),(9,I a3)] (ar 9 (neT a7) (ai a7 tv)) ?_
   obtain rfl := os h
   exact Qcz.mk
  clear a6
  refine K9l hc 3 [(1,I a1),(2,I b2),(3,.ra 1 0),(7,I a0),(8,.bool a5),(9,I (wr (a3 + 1)))] ?_
  refine Qcv ?_
  exact (impl_Systemjoin_l0_ih _ _ h c hc)
 refine xt 2 ?_
 refine Qcp ?_
 refine Qcw ?_
 obtain rfl := os h
 exact iv []
end Go.Am
