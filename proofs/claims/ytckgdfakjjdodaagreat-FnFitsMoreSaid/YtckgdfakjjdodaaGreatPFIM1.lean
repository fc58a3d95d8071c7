/- Plain laws of the printed functions. -/
import Derived.Test.YtckgdfakjjdodaaGreatPFIM0
set_option linter.unusedSimpArgs false
set_option linter.unusedVariables false
namespace Go.Am
def Kzq (t:K01) (out:List K04) (w:Nat):Option (List (List Int)) :=
 (if (decide ((w:Int) > 0))=true then some (true) else some ((t.fOp == 9))) >>= fun v =>
 if v=true then
  (if (decide ((w:Int) > 0))=true then (idx out 0) >>= fun e=>some (e.fty) else some ([])) >>= fun first=>(Kly (t,(w:Int),first)) >>= fun r=>some (r)
 else some ([])
def Kzr (p0:K06) (ctx:List (List Int)) (t:K01) (out:List K04) (needs used:List (List Int)) (w:Nat) (more:List (List Int)) (y:K04):Option (((List K04) × (List (List Int)) × (List (List Int))) ⊕ (K04)) :=
 if (y.ffault != 0)=true then
  (Qdq ([(w:Int)].length + y.fpath.length) 8) >>= fun _=>some (.inr (K04.mk [] [] [] y.ffault ([(w:Int)] ++ y.fpath)))
 else
  (Kmg (p0,t,(w:Int),y.fty)) >>= fun f =>
  if (f != 0)=true then some (.inr (K04.mk [] [] [] f []))
  else
   (if (t.fOp == 10)=true then
    if ((w:Int) == 1)=true then
     (idx out 0) >>= fun e=>(Klv e.fty) >>= fun r=>(idx r 0) >>= fun q=>(Kmn (y.fty,q)) >>= fun b=>some ((!b))
    else some (false)
   else some (false)) >>= fun v =>
   if v=true then some (.inr (K04.mk [] [] [] 3 []))
   else
    (Qdq (out.length + [y].length) 8) >>= fun _ =>
    (cut y.fneeds none (some (more.length:Int)) none) >>= fun c1 =>
    (Qdq (used.length + [c1].length) 24) >>= fun _ =>
    (cut y.fneeds (some (more.length:Int)) none none) >>= fun c2 =>
    (Qdq (needs.length + [c2].length) 24) >>= fun _ =>
    Kp8 (p0,ctx,t,(out ++ [y]),(needs ++ [c2]),(used ++ [c1]),(wr ((w:Int) + 1)))
theorem Kzs {p0:K06} {ctx:List (List Int)} {t:K01} {out:List K04} {needs used:List (List Int)} {w:Nat} {k:K01} {more:List (List Int)} {y:K04} (hw:w < t.fKids.length) (hk:idx t.fKids (w:Int)=some k) (hm:Kzq t out w=some more)
  (hc:ctx.length + more.length ≤ 1000000) (hy:Kp7 (p0,more ++ ctx,k)=some y):Kp8 (p0,ctx,t,out,needs,used,(w:Int))=Kzr p0 ctx t out needs used w more y:=by
 rw [Kp8.eq_def]
 simp only
 rw [Ks0 hw,if_pos rfl,hk,bs]
 have key:∀ {β:Type} (R:List (List Int)→Option β),((if (decide ((w:Int) > 0))=true then some (true) else some ((t.fOp == 9))) >>= fun v =>
   (if v=true then (if (decide ((w:Int) > 0))=true then (idx out 0) >>= fun e=>some (e.fty) else some ([])) >>= fun first=>(Kly (t,(w:Int),first)) >>= fun r=>some (r) else some ([])) >>= R)=(Kzq t out w >>= R):=fun R=>by
  unfold Kzq
  simp only [Option.bind_eq_bind,Option.bind_assoc]
 refine (key _).trans ?_
 rw [hm,bs,Kyu [more,ctx] (by simp) (by simp; omega),bs]
 simp only [List.flatten_cons,List.flatten_nil,List.append_nil]
 rw [hy,bs]
 rfl
theorem Kzt {p0:K06} {ctx:List (List Int)} {t:K01} {out:List K04} {needs used:List (List Int)} {w:Nat} (hw:t.fKids.length ≤ w):Kp8 (p0,ctx,t,out,needs,used,(w:Int))=some (.inl (out,needs,used)):=by
 rw [Kp8.eq_def]
 simp only
 rw [Ks1 hw]; rfl
theorem Kzu {α:Type} {l:List α} {m:Nat} (h:m ≤ l.length):cut l none (some (m:Int)) none=some (l.take m):=by
 unfold cut
 simp only [Option.getD_none,Option.getD_some,Int.toNat_natCast,Int.toNat_zero,List.drop_zero]
 rw [if_pos (by omega)]
theorem Kzv {α:Type} {l:List α} {m:Nat} (h:m ≤ l.length):cut l (some (m:Int)) none none=some (l.drop m):=by
 unfold cut
 simp only [Option.getD_none,Option.getD_some,Int.toNat_natCast]
 rw [if_pos (by omega),List.take_length]
def Kzw (t:K01) (out:List K04) (w:Nat) (y:K04):Option Bool :=
 if (t.fOp == 10)=true then
  if ((w:Int) == 1)=true then
   (idx out 0) >>= fun e=>(Klv e.fty) >>= fun r=>(idx r 0) >>= fun q=>(Kmn (y.fty,q)) >>= fun b=>some ((!b))
  else some (false)
 else some (false)
section
variable {p0:K06} {ctx:List (List Int)} {t:K01} {out:List K04} {needs used:List (List Int)} {w:Nat} {more:List (List Int)} {y:K04}
theorem Kzx (h:y.ffault ≠ 0) (hp:y.fpath.length ≤ 1000000):Kzr p0 ctx t out needs used w more y=some (.inr ⟨[],[],[],y.ffault,(w:Int) :: y.fpath⟩):=by
 unfold Kzr
 rw [if_pos (bne_iff_ne.2 h),Kv0 (by simp; omega),bs]
 rfl
theorem Kzy {f:Int} (h:y.ffault=0) (hf:Kmg (p0,t,(w:Int),y.fty)=some f) (hf0:f ≠ 0):Kzr p0 ctx t out needs used w more y=some (.inr ⟨[],[],[],f,[]⟩):=by
 unfold Kzr
 rw [if_neg (by simp [h]),hf,bs,if_pos (bne_iff_ne.2 hf0)]
theorem Kzz (h:y.ffault=0) (hf:Kmg (p0,t,(w:Int),y.fty)=some 0) (ha:Kzw t out w y=some true):Kzr p0 ctx t out needs used w more y=some (.inr ⟨[],[],[],3,[]⟩):=by
 unfold Kzr
 rw [if_neg (by simp [h]),hf,bs,if_neg (by simp)]
 refine (congrArg (· >>= _) (show _=some true from ha)).trans ?_
 rw [bs,if_pos rfl]
theorem V00 {ns:List Nat} (h:y.ffault=0) (hf:Kmg (p0,t,(w:Int),y.fty)=some 0) (ha:Kzw t out w y=some false) (hn:y.fneeds=Kxh ns) (hl:more.length ≤ ns.length)
  (h1:out.length ≤ 1000000) (h2:needs.length ≤ 1000000) (h3:used.length ≤ 1000000) (h4:w ≤ 1000000) :
  Kzr p0 ctx t out needs used w more y=Kp8 (p0,ctx,t,(out ++ [y]),(needs ++ [Kxh (ns.drop more.length)]),(used ++ [Kxh (ns.take more.length)]),((w + 1:Nat):Int)):=by
 unfold Kzr
 rw [if_neg (by simp [h]),hf,bs,if_neg (by simp)]
 refine (congrArg (· >>= _) (show _=some false from ha)).trans ?_
 rw [bs,if_neg (by simp),Kv0 (by simp; omega),bs,hn,Kzu (by rw [Kxi]; exact hl),bs,Kv0 (by simp; omega),bs,Kzv (by rw [Kxi]; exact hl),bs,Kv0 (by simp; omega),bs,Krz (by omega),Kxk,Kxj]
theorem V01 {r:K04} (hc:ctx.length ≤ 1000000) (h:Kp8 (p0,ctx,t,[],[],[],((0:Nat):Int))=some (.inr r)):Kp7 (p0,ctx,t)=some r:=by
 rw [Kp7.eq_def]
 simp only
 rw [Kwq (by simp; omega),bs,show (0:Int)=((0:Nat):Int) from rfl,h]
 rfl
theorem V02 {o:List K04} {nd us:List (List Int)} {f:Int} {g:K04} (hc:ctx.length ≤ 1000000) (h:Kp8 (p0,ctx,t,[],[],[],((0:Nat):Int))=some (.inl (o,nd,us)))
  (hf:Kp1 (p0,⟨[],Kxh (List.replicate ctx.length 0),o,0,[]⟩,ctx,t,nd,us)=some (f,g)) (hg:g.fpath=[]:=by rfl):Kp7 (p0,ctx,t)=some (if f=0 then ⟨g.fty,g.fneeds,g.fkids,0,g.fpath⟩ else ⟨[],[],[],f,[]⟩):=by
 have e:Kxh (List.replicate ctx.length 0)=List.replicate (Int.toNat (ctx.length:Int)) (0:Int):=by
  unfold Kxh; rw [List.map_replicate,Int.toNat_natCast]; rfl
 rw [e] at hf
 rw [Kp7.eq_def]
 simp only
 rw [Kwq (by simp; omega),bs,show Kp8 (p0,ctx,t,[],[],[],0)=some (.inl (o,nd,us)) from h,bs]
 simp only
 rw [hf,bs]
 simp only
 by_cases hz:f=0
 ·subst hz; first | (rw [if_neg (by simp),if_pos rfl]; done) | rw [if_neg (by simp),if_pos rfl,hg]
 ·rw [if_pos (bne_iff_ne.2 hz),if_neg hz]
theorem V03 (h:t.fOp ≠ 10):Kzw t out w y=some false:=by
 unfold Kzw
 rw [if_neg (by simpa using h)]
theorem V04 (h:w ≠ 1):Kzw t out w y=some false:=by
 unfold Kzw
 have:((w:Int) == 1)=false:=by rw [beq_eq_false_iff_ne]; omega
 rw [this]
 simp
end
section
variable {s:K00} {n:Nat} (hs:Kxm s n) {N:Int} {ty:List Int} {ks:List K01} {w:Nat} {c:Int} {r:List Int}
theorem V05 {op:Int} (h:(op=4∨op=6∨op=7∨op=9∨op=11)∨(w ≠ 0∧(op=3∨op=5∨op=8∨op=10∨op=12))):Kmg (⟨s⟩,⟨op,N,ty,ks⟩,(w:Int),c :: r)=some 0:=by
 have hw:∀ hw:w ≠ 0,((w:Int) == 0)=false:=fun hw=>by rw [beq_eq_false_iff_ne]; omega
 unfold Kmg
 rcases h with (rfl | rfl | rfl | rfl | rfl) | ⟨h0,(rfl | rfl | rfl | rfl | rfl)⟩
 all_goals first | simp [Kw7,Ktd,hw h0] | (by_cases h0:w=0 <;> simp [Kw7,Ktd,h0])
theorem V06:Kmg (⟨s⟩,⟨2,N,ty,ks⟩,(w:Int),c :: r)=some (if (Ktc c).1=0 then 0 else 2):=by
 unfold Kmg
 by_cases h:(Ktc c).1=0 <;> simp [Kw7,Ktd,h]
theorem V07:Kmg (⟨s⟩,⟨3,N,ty,ks⟩,((0:Nat):Int),c :: r)=some (if (Ktc c).1=0 then 0 else 2):=by
 unfold Kmg
 by_cases h:(Ktc c).1=0 <;> simp [Kw7,Ktd,h]
theorem V08:Kmg (⟨s⟩,⟨10,N,ty,ks⟩,((0:Nat):Int),c :: r)=some (if (Ktc c).1=3 then 0 else 6):=by
 unfold Kmg
 by_cases h:(Ktc c).1=3 <;> simp [Kw7,Ktd,h]
include hs
theorem V09 {g:Nat} (hg:g < n):Kmg (⟨s⟩,⟨5,(g:Int),ty,ks⟩,((0:Nat):Int),c :: r)=some (if (Ktc c).1=1 then (if le s n 1 g then 0 else 8) else 4):=by
 have hl:=iLe hs.tab (Kxo hs) hg
 unfold Kmg
 by_cases h:(Ktc c).1=1 <;> cases hle:le s n 1 g <;> simp [Kw7,Ktd,h,show Kj5 (s,1,(g:Int))=some (le s n 1 g) from hl,hle]
theorem V0a {g:Nat} (hg:g < n):Kmg (⟨s⟩,⟨8,(g:Int),ty,ks⟩,((0:Nat):Int),c :: r)=some (if (Ktc c).1=2 then (if le s n 1 g then 0 else 8) else 5):=by
 have hl:=iLe hs.tab (Kxo hs) hg
 unfold Kmg
 by_cases h:(Ktc c).1=2 <;> cases hle:le s n 1 g <;> simp [Kw7,Ktd,h,show Kj5 (s,1,(g:Int))=some (le s n 1 g) from hl,hle]
theorem V0b {g:Nat} (hg:g < n):Kmg (⟨s⟩,⟨12,(g:Int),ty,ks⟩,((0:Nat):Int),c :: r)=some (if (Ktc c).1=4 then (if le s n 1 g then 0 else 8) else 7):=by
 have hl:=iLe hs.tab (Kxo hs) hg
 unfold Kmg
 by_cases h:(Ktc c).1=4 <;> cases hle:le s n 1 g <;> simp [Kw7,Ktd,h,show Kj5 (s,1,(g:Int))=some (le s n 1 g) from hl,hle]
end
def V0c (ty:List Int) (ns:List Nat) (kids:List K04):Int × K04:=(if ty.length > 40 then 3 else 0,⟨ty,Kxh ns,kids,0,[]⟩)
theorem V0d {α:Type} (x:α) (l:List α):idx (x :: l) 0=some x:=rfl
theorem V0e {α:Type} (x y:α) (l:List α):idx (x :: y :: l) 1=some y:=rfl
theorem V0f {α:Type} (x y z:α) (l:List α):idx (x :: y :: z :: l) 2=some z:=rfl
section
variable {s:K00} {n:Nat} (hs:Kxm s n) {N:Int} {ty:List Int} {ks:List K01} {ctx us:List (List Int)} {z:List Int} {y0 y1 y2:K04} {a b d:List Nat}
theorem V0g {i:Nat} {q:List Int} {zs:List Nat} (hi:ctx[i]?=some q) (hz:i < zs.length) (hq:q.length ≤ 40):Kp1 (⟨s⟩,⟨[],Kxh zs,[],0,[]⟩,ctx,⟨0,(i:Int),ty,ks⟩,[],[])=some (V0c q (zs.set i 1) []):=by
 obtain ⟨h1,h2⟩:=List.getElem?_eq_some_iff.1 hi
 have e1:idx ctx (i:Int)=some q:=by rw [Kry h1,h2]
 have e2:idx (Kxh zs) (i:Int)=some ((zs[i]:Nat):Int):=by rw [Kry (by rw [Kxi]; exact hz)]; simp [Kxh]
 have e3:List.set (Kxh zs) i 1=Kxh (zs.set i 1):=by unfold Kxh; rw [List.map_set]; rfl
 have h40:¬ ((q.length:Int) > 40):=by omega
 unfold Kp1 Koh V0c
 simp [e1,e2,e3,Kv3 q (by omega),show ¬ (40 < (q.length:Int)) by omega,show ¬ (40 < q.length) by omega]
theorem V0h {zs:List Nat}:Kp1 (⟨s⟩,⟨[],Kxh zs,[],0,[]⟩,ctx,⟨1,N,ty,ks⟩,[],[])=some (V0c [0] zs []):=by
 unfold Kp1 Koh V0c
 simp
theorem V0i (hy:y0.fty.length ≤ 1000) (ht:ty.length ≤ 1000):Kp1 (⟨s⟩,⟨[],z,[y0],0,[]⟩,ctx,⟨6,N,ty,ks⟩,[Kxh a],us)=some (V0c (2 :: (y0.fty ++ ty)) a [y0]):=by
 have hc:=Kyq [[2],y0.fty,ty] (by simp) (by simp; omega)
 unfold Kp1 Koh V0c Kn3
 simp only [List.flatten_cons,List.flatten_nil,List.append_nil,List.singleton_append,List.cons_append,List.nil_append] at hc
 simp [V0d,V0e,hc]
 split <;> rename_i q40
 ·rw [if_pos (by omega)]
 ·rw [if_neg (by omega)]
theorem V0j (hy:y0.fty.length ≤ 1000) (ht:ty.length ≤ 1000):Kp1 (⟨s⟩,⟨[],z,[y0],0,[]⟩,ctx,⟨7,N,ty,ks⟩,[Kxh a],us)=some (V0c (2 :: (ty ++ y0.fty)) a [y0]):=by
 have hc:=Kyq [[2],ty,y0.fty] (by simp) (by simp; omega)
 unfold Kp1 Koh V0c Kn3
 simp only [List.flatten_cons,List.flatten_nil,List.append_nil,List.singleton_append,List.cons_append,List.nil_append] at hc
 simp [V0d,V0e,hc]
 split <;> rename_i q40
 ·rw [if_pos (by omega)]
 ·rw [if_neg (by omega)]
include hs
theorem V0k (ha:Kxx n a) (hb:Kxx n b) (hl:a.length ≤ 1000000) (hab:a.length=b.length):Kp1 (⟨s⟩,⟨[],z,[y0,y1],0,[]⟩,ctx,⟨2,N,ty,ks⟩,[Kxh a,Kxh b],us)=some (V0c [0] (Kxu s n a b) [y0,y1]):=by
 have h:=Kyc hs a b ha hb (by omega) hab
 unfold Kp1 Koh V0c
 simp [V0d,V0e,h]
theorem V0l (ha:Kxx n a) (hb:Kxx n b) (hd:Kxx n d) (hl:a.length ≤ 1000000) (hab:a.length=b.length) (had:a.length=d.length) (h2:y2.fty.length ≤ 1000) (h1:y1.fty.length ≤ 40) :
  Kp1 (⟨s⟩,⟨[],z,[y0,y1,y2],0,[]⟩,ctx,⟨3,N,ty,ks⟩,[Kxh a,Kxh b,Kxh d],us)=some (if y1.fty=y2.fty then V0c y1.fty (Kxu s n a (Kxw s n b d)) [y0,y1,y2] else (3,⟨[],z,[y0,y1,y2],0,[]⟩)):=by
 have hj:=Kye hs b d hb hd (by omega) (by omega)
 have hlj:(Kxw s n b d).length=a.length:=by unfold Kxw; rw [List.length_zipWith]; omega
 have h:=Kyc hs a (Kxw s n b d) ha (Ky2 hs hb hd) (by omega) hlj.symm
 have he:=Kwv y1.fty y2.fty (by omega)
 unfold Kp1 Koh V0c Kn3
 by_cases hq:y1.fty=y2.fty
 ·rw [show (y1.fty == y2.fty)=true from beq_iff_eq.2 hq] at he
  rw [if_pos hq]
  simp [V0d,V0e,V0f,he,hj,h,show ¬ (40 < (y1.fty.length:Int)) by omega,show ¬ (40 < y1.fty.length) by omega]
 ·rw [show (y1.fty == y2.fty)=false from beq_eq_false_iff_ne.2 hq] at he
  rw [if_neg hq]
  simp [V0d,V0e,V0f,he]
theorem V0m (ha:Kxx n a) (hb:Kxx n b) (hl:a.length ≤ 1000000) (hab:a.length=b.length) (h0:y0.fty.length ≤ 1000) (h1:y1.fty.length ≤ 1000) :
  Kp1 (⟨s⟩,⟨[],z,[y0,y1],0,[]⟩,ctx,⟨4,N,ty,ks⟩,[Kxh a,Kxh b],us)=some (V0c (1 :: (y0.fty ++ y1.fty)) (Kxu s n a b) [y0,y1]):=by
 have h:=Kyc hs a b ha hb (by omega) hab
 have hc:=Kyq [[1],y0.fty,y1.fty] (by simp) (by simp; omega)
 unfold Kp1 Koh V0c Kn3
 simp only [List.flatten_cons,List.flatten_nil,List.append_nil,List.singleton_append,List.cons_append,List.nil_append] at hc
 simp [V0d,V0e,hc,h]
 split <;> rename_i q40
 ·rw [if_pos (by omega)]
 ·rw [if_neg (by omega)]
theorem V0n {g:Nat} (hg:g < n) {u:List Nat} (hu:Kxx n u) (hul:u.length ≤ 1000000) (hy:y0.fty.length ≤ 1000) (ht:ty.length ≤ 1000) :
  Kp1 (⟨s⟩,⟨[],z,[y0],0,[]⟩,ctx,⟨9,(g:Int),ty,ks⟩,[Kxh a],[Kxh u])=some (if (u.all fun x=>le s n x g)=true then V0c ((3 + (g:Int)) :: (ty ++ y0.fty)) a [y0] else (9,⟨[],z,[y0],0,[]⟩)):=by
 have hn:=hs.tab.hi
 have e:=Kyi hs g hg u hu (by omega)
 have hw:wr (3 + (g:Int))=3 + (g:Int):=Krx (by omega) (by omega)
 have hc:=Kyq [[3 + (g:Int)],ty,y0.fty] (by simp) (by simp; omega)
 unfold Kp1 Koh V0c Kn3
 simp only [List.flatten_cons,List.flatten_nil,List.append_nil,List.singleton_append,List.cons_append,List.nil_append] at hc
 cases hq:(u.all fun x=>le s n x g) with
 | true =>
  rw [hq] at e
  simp [V0d,V0e,e,hc,hw]
  split <;> rename_i q40
  ·rw [if_pos (by omega)]
  ·rw [if_neg (by omega)]
 | false =>
  rw [hq] at e
  simp [V0d,V0e,e]
theorem V0o {g:Nat} (hg:g < n) (ha:Kxx n a) (hl:a.length ≤ 1000000) (hy:y0.fty.length ≤ 1000) :
  Kp1 (⟨s⟩,⟨[],z,[y0],0,[]⟩,ctx,⟨11,(g:Int),ty,ks⟩,[Kxh a],us)=some (V0c ((19 + (g:Int)) :: y0.fty) (Kxv s n g a) [y0]):=by
 have hn:=hs.tab.hi
 have e:=Kyg hs g hg a ha (by omega)
 have hw:wr (19 + (g:Int))=19 + (g:Int):=Krx (by omega) (by omega)
 have hc:=Kyq [[19 + (g:Int)],y0.fty] (by simp) (by simp; omega)
 unfold Kp1 Koh V0c Kn3
 simp only [List.flatten_cons,List.flatten_nil,List.append_nil,List.singleton_append,List.cons_append,List.nil_append] at hc
 simp [V0d,V0e,hc,hw,e]
 split <;> rename_i q40
 ·rw [if_pos (by omega)]
 ·rw [if_neg (by omega)]
theorem V0p {g:Nat} (hg:g < n) {p q:List Int} (hty:y0.fty=(3 + (g:Int)) :: (p ++ q)) (hP:Kzb s (3 + (g:Int)) p q) (ha:Kxx n a) (hb:Kxx n b) (hl:a.length ≤ 1000000) (hab:a.length=b.length) :
  Kp1 (⟨s⟩,⟨[],z,[y0,y1],0,[]⟩,ctx,⟨10,N,ty,ks⟩,[Kxh a,Kxh b],us)=some (V0c q (Kxu s n a (Kxv s n g b)) [y0,y1]):=by
 have hn:=hs.tab.hi
 have e:=Kyg hs g hg b hb (by omega)
 have hlj:(Kxv s n g b).length=a.length:=by unfold Kxv; rw [List.length_map]; omega
 have h:=Kyc hs a (Kxv s n g b) ha (Ky1 hs hg hb) (by omega) hlj.symm
 have hsh:Ktc (3 + (g:Int))=(3,(g:Int)):=by
  rcases Kte (3 + (g:Int)) with h | h | h | h | h | h | h | h <;> first | omega | (obtain ⟨_,e⟩:=h; rw [e]; congr 1; omega)
 have hq:=Kz8 hP.yb
 have pp:=hP.pp
 rw [← hty] at pp
 have i0:idx y0.fty 0=some (3 + (g:Int)):=by rw [hty]; rfl
 unfold Kp1 Koh V0c Kn3
 simp [V0d,V0e,i0,Ktd,hsh,pp,e,h,show ¬ (40 < (q.length:Int)) by omega,show ¬ (40 < q.length) by omega]
theorem V0q {g:Nat} (hg:g < n) {u:List Nat} {us':List Int} (hu:Kxx n u) (hul:u.length ≤ 1000000) (ha:Kxx n a) (hb:Kxx n b) (hl:a.length ≤ 1000000) (hab:a.length=b.length) (h1:y1.fty.length ≤ 40) :
  Kp1 (⟨s⟩,⟨[],z,[y0,y1],0,[]⟩,ctx,⟨5,(g:Int),ty,ks⟩,[Kxh a,Kxh b],[us',Kxh u])=some (if (u.all fun x=>le s n x g)=true then V0c y1.fty (Kxu s n (Kxv s n g a) b) [y0,y1] else (9,⟨[],z,[y0,y1],0,[]⟩)):=by
 have e:=Kyi hs g hg u hu (by omega)
 have e2:=Kyg hs g hg a ha (by omega)
 have hlj:(Kxv s n g a).length=a.length:=by unfold Kxv; rw [List.length_map]
 have h:=Kyc hs (Kxv s n g a) b (Ky1 hs hg ha) hb (by omega) (by omega)
 unfold Kp1 Koh V0c Kn3
 cases hq:(u.all fun x=>le s n x g) with
 | true =>
  rw [hq] at e
  simp [V0d,V0e,e,e2,h,show ¬ (40 < (y1.fty.length:Int)) by omega,show ¬ (40 < y1.fty.length) by omega]
 | false =>
  rw [hq] at e
  simp [V0d,V0e,e]
theorem V0r {g m:Nat} (hg:g < n) (hm:m < n) {p:List Int} (hty:y0.fty=(19 + (m:Int)) :: p) {u:List Nat} {us':List Int} (hu:Kxx n u) (hul:u.length ≤ 1000000) (ha:Kxx n a) (hb:Kxx n b) (hl:a.length ≤ 1000000) (hab:a.length=b.length) (h1:y1.fty.length ≤ 40) :
  Kp1 (⟨s⟩,⟨[],z,[y0,y1],0,[]⟩,ctx,⟨12,(g:Int),ty,ks⟩,[Kxh a,Kxh b],[us',Kxh u])=some (if (u.all fun x=>le s n x (ti s n g m))=true then V0c y1.fty (Kxu s n (Kxv s n g a) b) [y0,y1] else (9,⟨[],z,[y0,y1],0,[]⟩)):=by
 have hn:=hs.tab.hi
 have e0:=Ksd hs.tab hg hm
 have e:=Kyi hs (ti s n g m) (Ks6 hs.tab hg hm) u hu (by omega)
 have e2:=Kyg hs g hg a ha (by omega)
 have hlj:(Kxv s n g a).length=a.length:=by unfold Kxv; rw [List.length_map]
 have h:=Kyc hs (Kxv s n g a) b (Ky1 hs hg ha) hb (by omega) (by omega)
 have hsh:Ktc (19 + (m:Int))=(4,(m:Int)):=by
  rcases Kte (19 + (m:Int)) with h | h | h | h | h | h | h | h <;> first | omega | (obtain ⟨_,e⟩:=h; rw [e]; congr 1; omega)
 have i0:idx y0.fty 0=some (19 + (m:Int)):=by rw [hty]; rfl
 unfold Kp1 Koh V0c Kn3
 cases hq:(u.all fun x=>le s n x (ti s n g m)) with
 | true =>
  rw [hq] at e
  simp [V0d,V0e,i0,Ktd,hsh,e0,e,e2,h,show ¬ (40 < (y1.fty.length:Int)) by omega,show ¬ (40 < y1.fty.length) by omega]
 | false =>
  rw [hq] at e
  simp [V0d,V0e,i0,Ktd,hsh,e0,e]
theorem V0s {g:Nat} (hg:g < n) {u v:List Nat} {us':List Int} (hu:Kxx n u) (hul:u.length ≤ 1000000) (hv:Kxx n v) (hvl:v.length ≤ 1000000) (ha:Kxx n a) (hb:Kxx n b) (hd:Kxx n d) (hl:a.length ≤ 1000000) (hab:a.length=b.length) (had:a.length=d.length) (h2:y2.fty.length ≤ 1000) (h1:y1.fty.length ≤ 40) :
  Kp1 (⟨s⟩,⟨[],z,[y0,y1,y2],0,[]⟩,ctx,⟨8,(g:Int),ty,ks⟩,[Kxh a,Kxh b,Kxh d],[us',Kxh u,Kxh v]) =
   some (if y1.fty=y2.fty then (if (u.all fun x=>le s n x g)=true∧(v.all fun x=>le s n x g)=true then V0c y1.fty (Kxu s n (Kxv s n g a) (Kxw s n b d)) [y0,y1,y2] else (9,⟨[],z,[y0,y1,y2],0,[]⟩)) else (3,⟨[],z,[y0,y1,y2],0,[]⟩)):=by
 have e:=Kyi hs g hg u hu (by omega)
 have e':=Kyi hs g hg v hv (by omega)
 have e2:=Kyg hs g hg a ha (by omega)
 have hj:=Kye hs b d hb hd (by omega) (by omega)
 have hlj:(Kxw s n b d).length=a.length:=by unfold Kxw; rw [List.length_zipWith]; omega
 have hls:(Kxv s n g a).length=a.length:=by unfold Kxv; rw [List.length_map]
 have h:=Kyc hs (Kxv s n g a) (Kxw s n b d) (Ky1 hs hg ha) (Ky2 hs hb hd) (by omega) (by omega)
 have he:=Kwv y1.fty y2.fty (by omega)
 unfold Kp1 Koh V0c Kn3
 by_cases hq:y1.fty=y2.fty
 ·rw [show (y1.fty == y2.fty)=true from beq_iff_eq.2 hq] at he
  rw [if_pos hq]
  cases hu':(u.all fun x=>le s n x g) with
  | false =>
   rw [hu'] at e
   simp [V0d,V0e,V0f,he,e]
  | true =>
   rw [hu'] at e
   cases hv':(v.all fun x=>le s n x g) with
   | false =>
    rw [hv'] at e'
    simp [V0d,V0e,V0f,he,e,e']
   | true =>
    rw [hv'] at e'
    simp [V0d,V0e,V0f,he,e,e',e2,hj,h,show ¬ (40 < (y1.fty.length:Int)) by omega,show ¬ (40 < y1.fty.length) by omega]
 ·rw [show (y1.fty == y2.fty)=false from beq_eq_false_iff_ne.2 hq] at he
  rw [if_neg hq]
  simp [V0d,V0e,V0f,he]
end
def V0t (t:K01) (i:Nat) (kids:List K04):List (List Int):=(Kly (t,(i:Int),(match kids with | []=>[] | y :: _=>y.fty))).getD []
structure V0u (s:K00) (ctx:List (List Int)) (t:K01) (kids:List K04) (i:Nat) (k:K01) (y:K04):Prop where
 im:Kp7 (⟨s⟩,V0t t i kids ++ ctx,k)=some y
 fa:y.ffault=0
 ty:∀ q ∈ V0t t i kids,TyS s q
 ln:(V0t t i kids).length=Kuh t.fOp i
structure V0v (s:K00) (n:Nat) (ctx:List (List Int)) (t:K01) (x:K03) (y:K04):Prop where
 sp:Kfy (s,ctx,t)=some x
 im:Kp7 (⟨s⟩,ctx,t)=some y
 ty:y.fty=x.fty
 ne:y.fneeds=x.fneeds
 fa:y.ffault=x.ffault
 pa:y.fpath=x.fpath
 pl:x.fpath.length + 1 ≤ tsz t
 bd:x.ffault ≠ 0→x.fty=[]∧x.fneeds=[]
 gd:x.ffault=0→TyS s x.fty∧x.fpath=[]∧∃ ns:List Nat,x.fneeds=Kxh ns∧ns.length=ctx.length∧Kxx n ns
 kd:x.ffault=0→y.fkids.length=t.fKids.length∧∀ (i:Nat) (k:K01),t.fKids[i]?=some k→∃ yk,y.fkids[i]?=some yk∧V0u s ctx t y.fkids i k yk
section
variable {s:K00} {n:Nat} {ctx:List (List Int)} {t:K01}
theorem V0v.bad {f:Int} {p:List Int} (sp:Kfy (s,ctx,t)=some ⟨[],[],f,p⟩) (im:Kp7 (⟨s⟩,ctx,t)=some ⟨[],[],[],f,p⟩) (hf:f ≠ 0) (hp:p.length + 1 ≤ tsz t):∃ x y,V0v s n ctx t x y :=
 ⟨_,_,{ sp:=sp,im:=im,ty:=rfl,ne:=rfl,fa:=rfl,pa:=rfl,pl:=hp,bd:=fun _=>⟨rfl,rfl⟩,gd:=fun h=>absurd h hf,kd:=fun h=>absurd h hf }⟩
theorem V0v.good {q:List Int} {ns:List Nat} {kids:List K04} (sp:Kfy (s,ctx,t)=some ⟨q,Kxh ns,0,[]⟩) (im:Kp7 (⟨s⟩,ctx,t)=some ⟨q,Kxh ns,kids,0,[]⟩) (hp:1 ≤ tsz t) (hq:TyS s q) (hl:ns.length=ctx.length) (hb:Kxx n ns)
  (kl:kids.length=t.fKids.length) (kd:∀ (i:Nat) (k:K01),t.fKids[i]?=some k→∃ yk,kids[i]?=some yk∧V0u s ctx t kids i k yk):∃ x y,V0v s n ctx t x y :=
 ⟨_,_,{ sp:=sp,im:=im,ty:=rfl,ne:=rfl,fa:=rfl,pa:=rfl,pl:=by simpa using hp,bd:=fun h=>absurd rfl h,gd:=fun _=>⟨hq,rfl,ns,rfl,hl,hb⟩,kd:=fun _=>⟨kl,kd⟩ }⟩
theorem V0v.done {q:List Int} {ns:List Nat} {kids:List K04} (sp:Kfy (s,ctx,t)=Kfi (q,Kxh ns)) (im:Kp7 (⟨s⟩,ctx,t)=some (if (V0c q ns kids).1=0 then ⟨(V0c q ns kids).2.fty,(V0c q ns kids).2.fneeds,(V0c q ns kids).2.fkids,0,(V0c q ns kids).2.fpath⟩ else ⟨[],[],[],(V0c q ns kids).1,[]⟩)) (hp:1 ≤ tsz t)
  (hq:q.length ≤ 40→TyS s q) (hl:ns.length=ctx.length) (hb:Kxx n ns) (kl:kids.length=t.fKids.length) (kd:∀ (i:Nat) (k:K01),t.fKids[i]?=some k→∃ yk,kids[i]?=some yk∧V0u s ctx t kids i k yk):∃ x y,V0v s n ctx t x y:=by
 unfold Kfi Kf8 at sp
 simp only at sp
 unfold V0c at im
 by_cases h:q.length > 40
 ·rw [decide_eq_true (by omega),if_pos rfl,bs] at sp
  rw [if_pos h,if_neg (by simp)] at im
  exact V0v.bad sp im (by decide) (by simpa using hp)
 ·rw [decide_eq_false (by omega),if_neg (by decide)] at sp
  rw [if_neg h,if_pos rfl] at im
  exact V0v.good sp im hp (hq (by omega)) hl hb kl kd
theorem V0w {i:Nat} {k:K01} {x:K03} {y:K04} {c:List (List Int)} (hk:t.fKids[i]?=some k) (h:V0v s n c k x y) (hf:x.ffault=0):Kg0 (s,c,t,(i:Int))=some x:=by
 obtain ⟨h1,h2⟩:=List.getElem?_eq_some_iff.1 hk
 rw [Kg0.eq_def]
 simp only
 rw [Kry h1,h2,bs,h.sp,bs,if_neg (by simp [hf]),bs]
theorem V0x {i:Nat} {k:K01} {x:K03} {y:K04} {c:List (List Int)} (hk:t.fKids[i]?=some k) (h:V0v s n c k x y) (hz:tsz k ≤ 1000000) (hf:x.ffault ≠ 0):Kg0 (s,c,t,(i:Int))=some ⟨[],[],x.ffault,(i:Int) :: x.fpath⟩:=by
 obtain ⟨h1,h2⟩:=List.getElem?_eq_some_iff.1 hk
 have hp:=h.pl
 obtain ⟨q1,q2⟩:=h.bd hf
 rw [Kg0.eq_def]
 simp only
 rw [Kry h1,h2,bs,h.sp,bs,if_pos (bne_iff_ne.2 hf),Kv0 (by simp; omega),bs,bs,q1,q2]
 rfl
variable {out:List K04} {nd us:List (List Int)} {w:Nat} {k:K01} {m:List (List Int)} {x:K03} {y:K04}
theorem V0y (hk:t.fKids[w]?=some k) (hm:Kzq t out w=some m) (r:V0v s n (m ++ ctx) k x y) (hz:tsz k ≤ 1000000) (hc:ctx.length + m.length ≤ 1000000) (hf:x.ffault ≠ 0) :
  Kp8 (⟨s⟩,ctx,t,out,nd,us,(w:Int))=some (.inr ⟨[],[],[],x.ffault,(w:Int) :: x.fpath⟩):=by
 obtain ⟨h1,h2⟩:=List.getElem?_eq_some_iff.1 hk
 have hp:=r.pl
 rw [Kzs h1 (by rw [Kry h1,h2]) hm hc r.im,Kzx (by rw [r.fa]; exact hf) (by rw [r.pa]; omega),r.fa,r.pa]
theorem V0z {f:Int} (hk:t.fKids[w]?=some k) (hm:Kzq t out w=some m) (r:V0v s n (m ++ ctx) k x y) (hc:ctx.length + m.length ≤ 1000000) (hf:x.ffault=0) (h:Kmg (⟨s⟩,t,(w:Int),x.fty)=some f) (hf0:f ≠ 0) :
  Kp8 (⟨s⟩,ctx,t,out,nd,us,(w:Int))=some (.inr ⟨[],[],[],f,[]⟩):=by
 obtain ⟨h1,h2⟩:=List.getElem?_eq_some_iff.1 hk
 rw [Kzs h1 (by rw [Kry h1,h2]) hm hc r.im,Kzy (by rw [r.fa]; exact hf) (by rw [r.ty]; exact h) hf0]
theorem V10 (hk:t.fKids[w]?=some k) (hm:Kzq t out w=some m) (r:V0v s n (m ++ ctx) k x y) (hc:ctx.length + m.length ≤ 1000000) (hf:x.ffault=0) (h:Kmg (⟨s⟩,t,(w:Int),x.fty)=some 0) (ha:Kzw t out w y=some true) :
  Kp8 (⟨s⟩,ctx,t,out,nd,us,(w:Int))=some (.inr ⟨[],[],[],3,[]⟩):=by
 obtain ⟨h1,h2⟩:=List.getElem?_eq_some_iff.1 hk
 rw [Kzs h1 (by rw [Kry h1,h2]) hm hc r.im,Kzz (by rw [r.fa]; exact hf) (by rw [r.ty]; exact h) ha]
theorem V11 {ns:List Nat} (hk:t.fKids[w]?=some k) (hm:Kzq t out w=some m) (r:V0v s n (m ++ ctx) k x y) (hc:ctx.length + m.length ≤ 1000000) (hf:x.ffault=0) (h:Kmg (⟨s⟩,t,(w:Int),x.fty)=some 0) (ha:Kzw t out w y=some false)
  (hn:x.fneeds=Kxh ns) (hl:m.length ≤ ns.length) (h1':out.length ≤ 1000000) (h2':nd.length ≤ 1000000) (h3':us.length ≤ 1000000) (h4':w ≤ 1000000) :
  Kp8 (⟨s⟩,ctx,t,out,nd,us,(w:Int))=Kp8 (⟨s⟩,ctx,t,(out ++ [y]),(nd ++ [Kxh (ns.drop m.length)]),(us ++ [Kxh (ns.take m.length)]),((w + 1:Nat):Int)):=by
 obtain ⟨h1,h2⟩:=List.getElem?_eq_some_iff.1 hk
 rw [Kzs h1 (by rw [Kry h1,h2]) hm hc r.im,V00 (by rw [r.fa]; exact hf) (by rw [r.ty]; exact h) ha (by rw [r.ne]; exact hn) hl h1' h2' h3' h4']
end
theorem V12 {op N:Int} {ty:List Int} {ks:List K01} {i:Nat} {q:List Int} (h9:op ≠ 9) (h:Kuh op (i:Int)=0):Kly (⟨op,N,ty,ks⟩,(i:Int),q)=some []:=by
 unfold Kly
 simp only
 rw [if_neg (by simpa using h9),Kuk,bs,h]
 rfl
theorem V13 {N:Int} {ty:List Int} {ks:List K01} {i:Nat} {q:List Int}:Kly (⟨9,N,ty,ks⟩,(i:Int),q)=some [ty]:=by
 unfold Kly
 simp only
 rw [if_pos (by decide)]
theorem V14 {s:K00} {N:Int} {ty:List Int} {ks:List K01} {p q:List Int} (h:Kzb s 1 p q):Kly (⟨5,N,ty,ks⟩,((1:Nat):Int),1 :: (p ++ q))=some [q,p]:=by
 unfold Kly
 simp only
 rw [if_neg (by decide),Kuk,bs,show Kuh 5 ((1:Nat):Int)=2 from rfl,if_neg (by decide),h.pp,bs,if_pos (by decide)]
 rfl
theorem V15 {s:K00} {N:Int} {ty:List Int} {ks:List K01} {p q:List Int} (h:Kzb s 2 p q):Kly (⟨8,N,ty,ks⟩,((1:Nat):Int),2 :: (p ++ q))=some [p]:=by
 unfold Kly
 simp only
 rw [if_neg (by decide),Kuk,bs,show Kuh 8 ((1:Nat):Int)=1 from rfl,if_neg (by decide),h.pp,bs,if_neg (by decide),if_pos (by decide)]
 rfl
theorem V16 {s:K00} {N:Int} {ty:List Int} {ks:List K01} {p q:List Int} (h:Kzb s 2 p q):Kly (⟨8,N,ty,ks⟩,((2:Nat):Int),2 :: (p ++ q))=some [q]:=by
 unfold Kly
 simp only
 rw [if_neg (by decide),Kuk,bs,show Kuh 8 ((2:Nat):Int)=1 from rfl,if_neg (by decide),h.pp,bs,if_neg (by decide),if_pos (by decide)]
 rfl
theorem V17 {s:K00} {N c:Int} {ty:List Int} {ks:List K01} {p:List Int} (h:Kzc s c p):Kly (⟨12,N,ty,ks⟩,((1:Nat):Int),c :: p)=some [p]:=by
 unfold Kly
 simp only
 rw [if_neg (by decide),Kuk,bs,show Kuh 12 ((1:Nat):Int)=1 from rfl,if_neg (by decide),h.pp,bs,if_neg (by decide),if_neg (by decide)]
theorem V18 {op N:Int} {ty:List Int} {ks:List K01} (h9:op ≠ 9):Kzq ⟨op,N,ty,ks⟩ [] 0=some []:=by
 unfold Kzq
 simp [h9]
theorem V19 {N:Int} {ty:List Int} {ks:List K01}:Kzq ⟨9,N,ty,ks⟩ [] 0=some [ty]:=by
 unfold Kzq
 have:=@V13 N ty ks 0 []
 simp at this ⊢
 rw [this]
theorem V1a {t:K01} {w:Nat} {y0:K04} {l:List K04} {m:List (List Int)} (hw:0 < w) (h:Kly (t,(w:Int),y0.fty)=some m):Kzq t (y0 :: l) w=some m:=by
 unfold Kzq
 rw [show decide ((w:Int) > 0)=true from decide_eq_true (by omega),if_pos rfl,bs,if_pos rfl,if_pos rfl,V0d,bs,bs,h,bs]
theorem V1b {t:K01} {i:Nat} {y0:K04} {l:List K04} {m:List (List Int)} (h:Kly (t,(i:Int),y0.fty)=some m):V0t t i (y0 :: l)=m:=by
 unfold V0t
 simp only
 rw [h]; rfl
theorem kd1 {s:K00} {ctx:List (List Int)} {op N:Int} {ty:List Int} {k0:K01} {y0:K04} (h0:V0u s ctx ⟨op,N,ty,[k0]⟩ [y0] 0 k0 y0) :
  ∀ (i:Nat) (k:K01),(⟨op,N,ty,[k0]⟩:K01).fKids[i]?=some k→∃ yk,[y0][i]?=some yk∧V0u s ctx ⟨op,N,ty,[k0]⟩ [y0] i k yk:=by
 intro i k hk
 match i,hk with
 | 0,hk=>cases hk; exact ⟨y0,rfl,h0⟩
 | i + 1,hk=>simp at hk
theorem kd2 {s:K00} {ctx:List (List Int)} {op N:Int} {ty:List Int} {k0 k1:K01} {y0 y1:K04} (h0:V0u s ctx ⟨op,N,ty,[k0,k1]⟩ [y0,y1] 0 k0 y0) (h1:V0u s ctx ⟨op,N,ty,[k0,k1]⟩ [y0,y1] 1 k1 y1) :
  ∀ (i:Nat) (k:K01),(⟨op,N,ty,[k0,k1]⟩:K01).fKids[i]?=some k→∃ yk,[y0,y1][i]?=some yk∧V0u s ctx ⟨op,N,ty,[k0,k1]⟩ [y0,y1] i k yk:=by
 intro i k hk
 match i,hk with
 | 0,hk=>cases hk; exact ⟨y0,rfl,h0⟩
 | 1,hk=>cases hk; exact ⟨y1,rfl,h1⟩
 | i + 2,hk=>simp at hk
theorem kd3 {s:K00} {ctx:List (List Int)} {op N:Int} {ty:List Int} {k0 k1 k2:K01} {y0 y1 y2:K04} (h0:V0u s ctx ⟨op,N,ty,[k0,k1,k2]⟩ [y0,y1,y2] 0 k0 y0) (h1:V0u s ctx ⟨op,N,ty,[k0,k1,k2]⟩ [y0,y1,y2] 1 k1 y1) (h2:V0u s ctx ⟨op,N,ty,[k0,k1,k2]⟩ [y0,y1,y2] 2 k2 y2) :
  ∀ (i:Nat) (k:K01),(⟨op,N,ty,[k0,k1,k2]⟩:K01).fKids[i]?=some k→∃ yk,[y0,y1,y2][i]?=some yk∧V0u s ctx ⟨op,N,ty,[k0,k1,k2]⟩ [y0,y1,y2] i k yk:=by
 intro i k hk
 match i,hk with
 | 0,hk=>cases hk; exact ⟨y0,rfl,h0⟩
 | 1,hk=>cases hk; exact ⟨y1,rfl,h1⟩
 | 2,hk=>cases hk; exact ⟨y2,rfl,h2⟩
 | i + 3,hk=>simp at hk
theorem V0u.mk' {s:K00} {n:Nat} {ctx m:List (List Int)} {t k:K01} {y0:K04} {l:List K04} {i:Nat} {x:K03} {y:K04} (ha:Kly (t,(i:Int),y0.fty)=some m) (r:V0v s n (m ++ ctx) k x y) (hf:x.ffault=0) (hm:∀ q ∈ m,TyS s q) (hl:m.length=Kuh t.fOp i):V0u s ctx t (y0 :: l) i k y:=by
 have e:=V1b (l:=l) ha
 exact ⟨by rw [e]; exact r.im,by rw [r.fa]; exact hf,by rw [e]; exact hm,by rw [e]; exact hl⟩
def V1c (s:K00) (n sz:Nat):Prop:=∀ (k:K01) (c:List (List Int)),Kzl s c.length k sz→(∀ q ∈ c,TyS s q)→c.length + 2 * tsz k ≤ 1000000→∃ x y,V0v s n c k x y
theorem V1d {X:Option K04} {q:List Int} {ns:List Nat} {kids:List K04} (h:q.length ≤ 40) (im:X=some (if (V0c q ns kids).1=0 then (⟨(V0c q ns kids).2.fty,(V0c q ns kids).2.fneeds,(V0c q ns kids).2.fkids,0,(V0c q ns kids).2.fpath⟩:K04) else ⟨[],[],[],(V0c q ns kids).1,[]⟩)):X=some ⟨q,Kxh ns,kids,0,[]⟩:=by
 rw [im]
 unfold V0c
 simp only
 rw [show (if q.length > 40 then (3:Int) else 0)=0 from if_neg (by omega),if_pos rfl]
section
variable {s:K00} {n:Nat} (hs:Kxm s n) {ctx:List (List Int)} {N:Int} {ty:List Int} {ks:List K01}
theorem V1e {op:Int} {k0:K01} {l:List K01} {x0:K03} {y0:K04} (h0:op ≠ 0) (h1:op ≠ 1) (h9:op ≠ 9) (hb:ctx.length + 2 * tsz (⟨op,N,ty,k0 :: l⟩:K01) ≤ 1000000) (r0:V0v s n ctx k0 x0 y0) (f0:x0.ffault ≠ 0) :
  ∃ x y,V0v s n ctx ⟨op,N,ty,k0 :: l⟩ x y:=by
 have hz:tsz k0 + 1 ≤ tsz (⟨op,N,ty,k0 :: l⟩:K01):=by rw [tsz,Kty]; omega
 have e0:Kg0 (s,ctx,⟨op,N,ty,k0 :: l⟩,0)=some ⟨[],[],x0.ffault,0 :: x0.fpath⟩:=V0x (i:=0) rfl r0 (by omega) f0
 refine V0v.bad (f:=x0.ffault) (p:=0 :: x0.fpath) ?_ (V01 (by omega) (V0y (m:=[]) rfl (V18 h9) r0 (by omega) (by simp; omega) f0)) f0 (by have:=r0.pl; simp; omega)
 rw [Kfy.eq_def]
 simp [h0,h1,h9,e0,f0]
include hs
theorem V1f {t:K01} (ht:t.fOp=0) (h:tOk (gN s.fSize true) (yN s.fSize true) ctx.length t=true) (hc:∀ q ∈ ctx,TyS s q) (hb:ctx.length + 2 * tsz t ≤ 1000000):∃ x y,V0v s n ctx t x y:=by
 obtain ⟨i,hi,hl,hk⟩:=Kzo h ht
 obtain ⟨op,N,ty,ks⟩:=t
 simp only at ht hi hk
 subst ht; subst hi; subst hk
 have hq:ctx[i]?=some ctx[i]:=List.getElem?_eq_getElem hl
 have hy:=hc ctx[i] (List.getElem_mem hl)
 have e1:idx ctx (i:Int)=some ctx[i]:=Kry hl
 have hz:=Kyj ctx.length (by omega)
 have e2:idx (Kxh (List.replicate ctx.length 0)) (i:Int)=some (((List.replicate ctx.length (0:Nat))[i]'(by simpa using hl):Nat):Int):=by
  rw [Kry (by rw [Kxi]; simpa using hl)]; simp [Kxh]
 have e3:List.set (Kxh (List.replicate ctx.length 0)) i 1=Kxh ((List.replicate ctx.length 0).set i 1):=by unfold Kxh; rw [List.map_set]; rfl
 have hf:=V0g (s:=s) (ty:=ty) (ks:=[]) (zs:=List.replicate ctx.length 0) hq (by simpa using hl) (Kz8 hy)
 have im:=V02 (p0:=⟨s⟩) (t:=⟨0,(i:Int),ty,[]⟩) (by omega) (Kzt (Nat.le_refl _)) hf
 refine V0v.good (q:=ctx[i]) (ns:=(List.replicate ctx.length 0).set i 1) (kids:=[]) ?_ ?_ (by rw [tsz]; omega) hy (by simp) ?_ rfl (fun i k hk=>by simp at hk)
 ·rw [Kfy.eq_def]
  simp [hz,e1,e2,Kv2 ctx[i] (by have:=Kz8 hy; omega),e3]
 ·exact V1d (Kz8 hy) im
 ·intro x hx
  have h1:=Kxo hs
  rcases List.mem_or_eq_of_mem_set hx with h | rfl
  ·rw [List.eq_of_mem_replicate h]; omega
  ·exact h1
theorem V1g {t:K01} (ht:t.fOp=1) (h:tOk (gN s.fSize true) (yN s.fSize true) ctx.length t=true) (hb:ctx.length + 2 * tsz t ≤ 1000000):∃ x y,V0v s n ctx t x y:=by
 have hk:=Kzp h ht
 obtain ⟨op,N,ty,ks⟩:=t
 simp only at ht hk
 subst ht; subst hk
 have hz:=Kyj ctx.length (by omega)
 have hf:=V0h (s:=s) (N:=N) (ty:=ty) (ks:=[]) (ctx:=ctx) (zs:=List.replicate ctx.length 0)
 have im:=V02 (p0:=⟨s⟩) (t:=⟨1,N,ty,[]⟩) (by omega) (Kzt (Nat.le_refl _)) hf
 refine V0v.good (q:=[0]) (ns:=List.replicate ctx.length 0) (kids:=[]) ?_ ?_ (by rw [tsz]; omega) Kze (by simp) ?_ rfl (fun i k hk=>by simp at hk)
 ·rw [Kfy.eq_def]
  simp [hz]
 ·exact V1d (by decide) im
 ·intro x hx
  rw [List.eq_of_mem_replicate hx]
  exact Kxp hs
theorem V1h {q:List Int} (hq:TyS s q):∃ c r,q=c :: r∧((Ktc c).1=0 ↔ c=0)∧(c=0→q=[0]):=by
 rcases Kzh hs hq with rfl | ⟨a,b,rfl,_⟩ | ⟨a,b,rfl,_⟩ | ⟨g,a,b,hg,h15,rfl,_⟩ | ⟨g,a,hg,h15,rfl,_⟩
 ·exact ⟨0,[],rfl,by decide,fun _=>rfl⟩
 ·exact ⟨1,_,rfl,by decide,fun h=>absurd h (by decide)⟩
 ·exact ⟨2,_,rfl,by decide,fun h=>absurd h (by decide)⟩
 ·refine ⟨_,_,rfl,?_,fun h=>by omega⟩
  rcases Kte (3 + (g:Int)) with h | h | h | h | h | h | h | h <;> first | omega | (obtain ⟨_,e⟩:=h; rw [e]; simp; omega)
 ·refine ⟨_,_,rfl,?_,fun h=>by omega⟩
  rcases Kte (19 + (g:Int)) with h | h | h | h | h | h | h | h <;> first | omega | (obtain ⟨_,e⟩:=h; rw [e]; simp; omega)
theorem V1i (ih:V1c s n (tsz (⟨6,N,ty,ks⟩:K01))) (h:tOk (gN s.fSize true) (yN s.fSize true) ctx.length ⟨6,N,ty,ks⟩=true) (hc:∀ q ∈ ctx,TyS s q) (hb:ctx.length + 2 * tsz (⟨6,N,ty,ks⟩:K01) ≤ 1000000):∃ x y,V0v s n ctx ⟨6,N,ty,ks⟩ x y:=by
 obtain ⟨k0,rfl,p0⟩:=nd1 h (Nat.le_refl _) rfl
 have hz:=Kxd 6 N ty k0
 have hy:TyS s ty:=Kzn h rfl
 have ly:=Kz8 hy
 obtain ⟨x0,y0,r0⟩:=ih k0 ctx p0 hc (by omega)
 by_cases f0:x0.ffault=0
 rotate_left
 ·exact V1e (by decide) (by decide) (by decide) hb r0 f0
 obtain ⟨g0,q0,a,na,la,ba⟩:=r0.gd f0
 obtain ⟨c0,t0,ht0,hn0,hz0⟩:=V1h hs g0
 have L0:=Kz8 g0
 have e0:Kg0 (s,ctx,⟨6,N,ty,[k0]⟩,0)=some x0:=V0w (i:=0) rfl r0 f0
 have o0:=V11 (out:=[]) (nd:=[]) (us:=[]) (w:=0) (t:=⟨6,N,ty,[k0]⟩) (m:=[]) rfl (V18 (by decide)) r0 (by simp; omega) f0 (by rw [ht0]; exact V05 (.inl (by decide))) (V03 (show (6:Int) ≠ 10 by decide)) na (by simp <;> omega) (by simp) (by simp) (by simp) (by simp)
 have hf:=V0i (s:=s) (N:=N) (ty:=ty) (ks:=[k0]) (ctx:=ctx) (us:=[Kxh []]) (z:=Kxh (List.replicate ctx.length 0)) (y0:=y0) (a:=a) (by rw [r0.ty]; omega) (by omega)
 have im:=V02 (p0:=⟨s⟩) (t:=⟨6,N,ty,[k0]⟩) (ctx:=ctx) (by omega) (o0.trans (Kzt (Nat.le_refl _))) hf
 rw [r0.ty] at im
 refine V0v.done (q:=2 :: (x0.fty ++ ty)) (ns:=a) (kids:=[y0]) ?_ im (by omega) (fun hl=>Kzi hs g0 hy (.inr (.inl rfl)) hl) la ba rfl (kd1 (V0u.mk' (V12 (by decide) rfl) r0 f0 (fun _ h=>by cases h) rfl))
 have hg:=Kym 2 [x0.fty,ty] (by simp) (by simp; omega)
 simp only [List.flatten_cons,List.flatten_nil,List.append_nil] at hg
 rw [Kfy.eq_def]
 simp [e0,f0,hg,na]
theorem V1j (ih:V1c s n (tsz (⟨7,N,ty,ks⟩:K01))) (h:tOk (gN s.fSize true) (yN s.fSize true) ctx.length ⟨7,N,ty,ks⟩=true) (hc:∀ q ∈ ctx,TyS s q) (hb:ctx.length + 2 * tsz (⟨7,N,ty,ks⟩:K01) ≤ 1000000):∃ x y,V0v s n ctx ⟨7,N,ty,ks⟩ x y:=by
 obtain ⟨k0,rfl,p0⟩:=nd1 h (Nat.le_refl _) rfl
 have hz:=Kxd 7 N ty k0
 have hy:TyS s ty:=Kzn h rfl
 have ly:=Kz8 hy
 obtain ⟨x0,y0,r0⟩:=ih k0 ctx p0 hc (by omega)
 by_cases f0:x0.ffault=0
 rotate_left
 ·exact V1e (by decide) (by decide) (by decide) hb r0 f0
 obtain ⟨g0,q0,a,na,la,ba⟩:=r0.gd f0
 obtain ⟨c0,t0,ht0,hn0,hz0⟩:=V1h hs g0
 have L0:=Kz8 g0
 have e0:Kg0 (s,ctx,⟨7,N,ty,[k0]⟩,0)=some x0:=V0w (i:=0) rfl r0 f0
 have o0:=V11 (out:=[]) (nd:=[]) (us:=[]) (w:=0) (t:=⟨7,N,ty,[k0]⟩) (m:=[]) rfl (V18 (by decide)) r0 (by simp; omega) f0 (by rw [ht0]; exact V05 (.inl (by decide))) (V03 (show (7:Int) ≠ 10 by decide)) na (by simp <;> omega) (by simp) (by simp) (by simp) (by simp)
 have hf:=V0j (s:=s) (N:=N) (ty:=ty) (ks:=[k0]) (ctx:=ctx) (us:=[Kxh []]) (z:=Kxh (List.replicate ctx.length 0)) (y0:=y0) (a:=a) (by rw [r0.ty]; omega) (by omega)
 have im:=V02 (p0:=⟨s⟩) (t:=⟨7,N,ty,[k0]⟩) (ctx:=ctx) (by omega) (o0.trans (Kzt (Nat.le_refl _))) hf
 rw [r0.ty] at im
 refine V0v.done (q:=2 :: (ty ++ x0.fty)) (ns:=a) (kids:=[y0]) ?_ im (by omega) (fun hl=>Kzi hs hy g0 (.inr (.inl rfl)) hl) la ba rfl (kd1 (V0u.mk' (V12 (by decide) rfl) r0 f0 (fun _ h=>by cases h) rfl))
 have hg:=Kym 2 [ty,x0.fty] (by simp) (by simp; omega)
 simp only [List.flatten_cons,List.flatten_nil,List.append_nil] at hg
 rw [Kfy.eq_def]
 simp [e0,f0,hg,na]
theorem V1k (ih:V1c s n (tsz (⟨11,N,ty,ks⟩:K01))) (h:tOk (gN s.fSize true) (yN s.fSize true) ctx.length ⟨11,N,ty,ks⟩=true) (hc:∀ q ∈ ctx,TyS s q) (hb:ctx.length + 2 * tsz (⟨11,N,ty,ks⟩:K01) ≤ 1000000):∃ x y,V0v s n ctx ⟨11,N,ty,ks⟩ x y:=by
 obtain ⟨k0,rfl,p0⟩:=nd1 h (Nat.le_refl _) rfl
 have hz:=Kxd 11 N ty k0
 obtain ⟨g,hN,hg'⟩:=Kzk hs (Kzm h rfl)
 simp only at hN
 subst hN
 obtain ⟨x0,y0,r0⟩:=ih k0 ctx p0 hc (by omega)
 by_cases f0:x0.ffault=0
 rotate_left
 ·exact V1e (by decide) (by decide) (by decide) hb r0 f0
 obtain ⟨g0,q0,a,na,la,ba⟩:=r0.gd f0
 obtain ⟨c0,t0,ht0,hn0,hz0⟩:=V1h hs g0
 have L0:=Kz8 g0
 have e0:Kg0 (s,ctx,⟨11,(g:Int),ty,[k0]⟩,0)=some x0:=V0w (i:=0) rfl r0 f0
 have o0:=V11 (out:=[]) (nd:=[]) (us:=[]) (w:=0) (t:=⟨11,(g:Int),ty,[k0]⟩) (m:=[]) rfl (V18 (by decide)) r0 (by simp; omega) f0 (by rw [ht0]; exact V05 (.inl (by decide))) (V03 (show (11:Int) ≠ 10 by decide)) na (by simp <;> omega) (by simp) (by simp) (by simp) (by simp)
 have hf:=V0o (ty:=ty) (ks:=[k0]) (ctx:=ctx) (us:=[Kxh []]) (z:=Kxh (List.replicate ctx.length 0)) (y0:=y0) (a:=a) hs hg' ba (by omega) (by rw [r0.ty]; omega)
 have im:=V02 (p0:=⟨s⟩) (t:=⟨11,(g:Int),ty,[k0]⟩) (ctx:=ctx) (by omega) (o0.trans (Kzt (Nat.le_refl _))) hf
 rw [r0.ty] at im
 have hn:=hs.tab.hi
 refine V0v.done (q:=(19 + (g:Int)) :: x0.fty) (ns:=Kxv s n g a) (kids:=[y0]) ?_ im (by omega) (fun hl=>Kzj hs hg' g0 hl) (by unfold Kxv; rw [List.length_map]; exact la) (Ky1 hs hg' ba) rfl (kd1 (V0u.mk' (V12 (by decide) rfl) r0 f0 (fun _ h=>by cases h) rfl))
 have hg:=Kym (19 + (g:Int)) [x0.fty] (by simp) (by simp; omega)
 simp only [List.flatten_cons,List.flatten_nil,List.append_nil] at hg
 have hsc:=Ky1 hs hg' ba
 have hz0:=Ky4 hs hsc
 rw [show (Kxv s n g a).length=ctx.length by unfold Kxv; rw [List.length_map]; exact la] at hz0
 have hsum:=Ky6 hs g hg' (List.replicate ctx.length 0) a (fun x hx=>by rw [List.eq_of_mem_replicate hx]; exact Kxp hs) ba (by simp; omega) (by simp [la])
 rw [hz0] at hsum
 have hw:wr (19 + (g:Int))=19 + (g:Int):=Krx (by omega) (by omega)
 rw [Kfy.eq_def]
 simp [e0,f0,hg,na,hw,Kyj ctx.length (by omega),hsum]
theorem V1l (ih:V1c s n (tsz (⟨9,N,ty,ks⟩:K01))) (h:tOk (gN s.fSize true) (yN s.fSize true) ctx.length ⟨9,N,ty,ks⟩=true) (hc:∀ q ∈ ctx,TyS s q) (hb:ctx.length + 2 * tsz (⟨9,N,ty,ks⟩:K01) ≤ 1000000):∃ x y,V0v s n ctx ⟨9,N,ty,ks⟩ x y:=by
 obtain ⟨k0,rfl,p0⟩:=nd1 h (Nat.le_refl _) rfl
 have hz:=Kxd 9 N ty k0
 obtain ⟨g,hN,hg'⟩:=Kzk hs (Kzm h rfl)
 simp only at hN
 subst hN
 have hy:TyS s ty:=Kzn h rfl
 have ly:=Kz8 hy
 have hn:=hs.tab.hi
 have p0':Kzl s ([ty] ++ ctx).length k0 (tsz (⟨9,(g:Int),ty,[k0]⟩:K01)):=by
  have e:([ty] ++ ctx).length=ctx.length + Kuh 9 0:=by simp [Kuh]
  rw [e]; exact p0
 obtain ⟨x0,y0,r0⟩:=ih k0 ([ty] ++ ctx) p0' (fun q hq=>by rcases List.mem_cons.1 hq with rfl | hq; exact hy; exact hc q hq) (by simp; omega)
 have hw9:=Kyk ctx [ty] (by simp; omega)
 by_cases f0:x0.ffault=0
 rotate_left
 ·have e0:Kg0 (s,ty :: ctx,⟨9,(g:Int),ty,[k0]⟩,0)=some ⟨[],[],x0.ffault,0 :: x0.fpath⟩:=V0x (i:=0) rfl r0 (by omega) f0
  refine V0v.bad (f:=x0.ffault) (p:=0 :: x0.fpath) ?_ (V01 (by omega) (V0y (m:=[ty]) rfl V19 r0 (by omega) (by simp; omega) f0)) f0 (by have:=r0.pl; simp; omega)
  rw [Kfy.eq_def]
  simp [hw9,e0,f0]
 obtain ⟨g0,q0,a,na,la,ba⟩:=r0.gd f0
 obtain ⟨c0,t0,ht0,hn0,hz0⟩:=V1h hs g0
 have L0:=Kz8 g0
 have e0:Kg0 (s,ty :: ctx,⟨9,(g:Int),ty,[k0]⟩,0)=some x0:=V0w (i:=0) rfl r0 f0
 have la':a.length=ctx.length + 1:=by rw [la]; simp
 obtain ⟨u0,a',rfl⟩:∃ u0 a',a=u0 :: a':=by cases a with | nil=>simp at la' | cons u a'=>exact ⟨u,a',rfl⟩
 obtain ⟨hu0,ba'⟩:=Kxy ba
 have o0:=V11 (out:=[]) (nd:=[]) (us:=[]) (w:=0) (t:=⟨9,(g:Int),ty,[k0]⟩) (m:=[ty]) rfl V19 r0 (by simp; omega) f0 (by rw [ht0]; exact V05 (.inl (by decide))) (V03 (show (9:Int) ≠ 10 by decide)) na (by simp <;> omega) (by simp) (by simp) (by simp) (by simp)
 simp only [List.length_cons,List.length_nil,Nat.zero_add,List.drop_succ_cons,List.drop_zero,List.take_succ_cons,List.take_zero,List.nil_append] at o0
 have hf:=V0n (ty:=ty) (ks:=[k0]) (ctx:=ctx) (z:=Kxh (List.replicate ctx.length 0)) (y0:=y0) (a:=a') (u:=[u0]) hs hg' (fun x hx=>by simp at hx; rw [hx]; exact hu0) (by simp) (by rw [r0.ty]; omega) (by omega)
 have hl0:=o0.trans (Kzt (Nat.le_refl _))
 have hle:=sLe hs.tab hu0 hg'
 have hw:wr (3 + (g:Int))=3 + (g:Int):=Krx (by omega) (by omega)
 have hi0:idx x0.fneeds 0=some (u0:Int):=by rw [na]; rfl
 simp only [List.all_cons,List.all_nil,Bool.and_true] at hf
 cases hl:le s n u0 g with
 | false =>
  rw [hl,if_neg (by decide)] at hf
  refine V0v.bad (f:=9) (p:=[]) ?_ (V02 (by omega) hl0 hf) (by decide) (by simp; omega)
  rw [Kfy.eq_def]
  simp [hw9,e0,f0,hi0,hle,hl,Kf8]
 | true =>
  rw [hl,if_pos rfl] at hf
  have im:=V02 (by omega) hl0 hf
  rw [r0.ty] at im
  refine V0v.done (q:=(3 + (g:Int)) :: (ty ++ x0.fty)) (ns:=a') (kids:=[y0]) ?_ im (by omega) (fun hl=>Kzi hs hy g0 (.inr (.inr ⟨g,hg',rfl⟩)) hl) (by simpa using la') ba' rfl (kd1 (V0u.mk' (m:=[ty]) V13 r0 f0 (fun q hq=>by simp at hq; rw [hq]; exact hy) rfl))
  have hg:=Kym (3 + (g:Int)) [ty,x0.fty] (by simp) (by simp; omega)
  simp only [List.flatten_cons,List.flatten_nil,List.append_nil] at hg
  have hcut:cut x0.fneeds (some 1) none none=some (Kxh a'):=by rw [na]; exact Kwm _ _
  rw [Kfy.eq_def]
  simp [hw9,e0,f0,hi0,hle,hl,hg,hw,hcut,Kv2 (Kxh a') (by rw [Kxi]; simp at la'; omega)]
theorem V1m (ih:V1c s n (tsz (⟨4,N,ty,ks⟩:K01))) (h:tOk (gN s.fSize true) (yN s.fSize true) ctx.length ⟨4,N,ty,ks⟩=true) (hc:∀ q ∈ ctx,TyS s q) (hb:ctx.length + 2 * tsz (⟨4,N,ty,ks⟩:K01) ≤ 1000000):∃ x y,V0v s n ctx ⟨4,N,ty,ks⟩ x y:=by
 obtain ⟨k0,k1,rfl,p0,p1⟩:=nd2 h (Nat.le_refl _) rfl
 have hz:=Kxe 4 N ty k0 k1
 obtain ⟨x0,y0,r0⟩:=ih k0 ctx p0 hc (by omega)
 obtain ⟨x1,y1,r1⟩:=ih k1 ctx p1 hc (by omega)
 by_cases f0:x0.ffault=0
 rotate_left
 ·exact V1e (by decide) (by decide) (by decide) hb r0 f0
 obtain ⟨g0,q0,a,na,la,ba⟩:=r0.gd f0
 obtain ⟨c0,t0,ht0,hn0,hz0⟩:=V1h hs g0
 have L0:=Kz8 g0
 have e0:Kg0 (s,ctx,⟨4,N,ty,[k0,k1]⟩,0)=some x0:=V0w (i:=0) rfl r0 f0
 have o0:=V11 (out:=[]) (nd:=[]) (us:=[]) (w:=0) (t:=⟨4,N,ty,[k0,k1]⟩) (m:=[]) rfl (V18 (by decide)) r0 (by simp; omega) f0 (by rw [ht0]; exact V05 (.inl (by decide))) (V03 (show (4:Int) ≠ 10 by decide)) na (by simp <;> omega) (by simp) (by simp) (by simp) (by simp)
 have m1:Kzq ⟨4,N,ty,[k0,k1]⟩ [y0] 1=some []:=V1a (by decide) (V12 (by decide) rfl)
 by_cases f1:x1.ffault=0
 rotate_left
 ·have e1:Kg0 (s,ctx,⟨4,N,ty,[k0,k1]⟩,1)=some ⟨[],[],x1.ffault,1 :: x1.fpath⟩:=V0x (i:=1) rfl r1 (by omega) f1
  refine V0v.bad (f:=x1.ffault) (p:=1 :: x1.fpath) ?_ (V01 (by omega) (o0.trans (V0y (m:=[]) rfl m1 r1 (by omega) (by simp; omega) f1))) f1 (by have:=r1.pl; simp; omega)
  rw [Kfy.eq_def]
  simp [e0,f0,e1,f1]
 obtain ⟨g1,q1,b,nb,lb,bb⟩:=r1.gd f1
 obtain ⟨c1,t1,ht1,hn1,hz1⟩:=V1h hs g1
 have L1:=Kz8 g1
 have e1:Kg0 (s,ctx,⟨4,N,ty,[k0,k1]⟩,1)=some x1:=V0w (i:=1) rfl r1 f1
 have o1:=V11 (out:=[y0]) (nd:=[Kxh a]) (us:=[Kxh []]) (w:=1) (t:=⟨4,N,ty,[k0,k1]⟩) (m:=[]) rfl m1 r1 (by simp; omega) f1 (by rw [ht1]; exact V05 (.inl (by decide))) (V03 (show (4:Int) ≠ 10 by decide)) nb (by simp <;> omega) (by simp) (by simp) (by simp) (by simp)
 have hf:=V0m (N:=N) (ty:=ty) (ks:=[k0,k1]) (ctx:=ctx) (us:=[Kxh [],Kxh []]) (z:=Kxh (List.replicate ctx.length 0)) (y0:=y0) (y1:=y1) hs ba bb (by omega) (by omega) (by rw [r0.ty]; omega) (by rw [r1.ty]; omega)
 have im:=V02 (p0:=⟨s⟩) (t:=⟨4,N,ty,[k0,k1]⟩) (ctx:=ctx) (by omega) (o0.trans (o1.trans (Kzt (Nat.le_refl _)))) hf
 rw [r0.ty,r1.ty] at im
 refine V0v.done (q:=1 :: (x0.fty ++ x1.fty)) (ns:=Kxu s n a b) (kids:=[y0,y1]) ?_ im (by omega) (fun hl=>Kzi hs g0 g1 (.inl rfl) hl) (by unfold Kxu; rw [List.length_zipWith]; omega) (Ky0 hs ba bb) rfl (kd2 (V0u.mk' (V12 (by decide) rfl) r0 f0 (fun _ h=>by cases h) rfl) (V0u.mk' (V12 (by decide) rfl) r1 f1 (fun _ h=>by cases h) rfl))
 have hg:=Kym 1 [x0.fty,x1.fty] (by simp) (by simp; omega)
 simp only [List.flatten_cons,List.flatten_nil,List.append_nil] at hg
 rw [Kfy.eq_def]
 simp [e0,f0,e1,f1,hg,na,nb,Ky7 hs a b ba bb (by omega) (by omega)]
theorem V1n (ih:V1c s n (tsz (⟨2,N,ty,ks⟩:K01))) (h:tOk (gN s.fSize true) (yN s.fSize true) ctx.length ⟨2,N,ty,ks⟩=true) (hc:∀ q ∈ ctx,TyS s q) (hb:ctx.length + 2 * tsz (⟨2,N,ty,ks⟩:K01) ≤ 1000000):∃ x y,V0v s n ctx ⟨2,N,ty,ks⟩ x y:=by
 obtain ⟨k0,k1,rfl,p0,p1⟩:=nd2 h (Nat.le_refl _) rfl
 have hz:=Kxe 2 N ty k0 k1
 obtain ⟨x0,y0,r0⟩:=ih k0 ctx p0 hc (by omega)
 obtain ⟨x1,y1,r1⟩:=ih k1 ctx p1 hc (by omega)
 by_cases f0:x0.ffault=0
 rotate_left
 ·exact V1e (by decide) (by decide) (by decide) hb r0 f0
 obtain ⟨g0,q0,a,na,la,ba⟩:=r0.gd f0
 obtain ⟨c0,t0,ht0,hn0,hz0⟩:=V1h hs g0
 have L0:=Kz8 g0
 have e0:Kg0 (s,ctx,⟨2,N,ty,[k0,k1]⟩,0)=some x0:=V0w (i:=0) rfl r0 f0
 have i0:idx x0.fty 0=some c0:=by rw [ht0]; rfl
 by_cases z0:c0=0
 rotate_left
 ·refine V0v.bad (f:=2) (p:=[]) ?_ (V01 (by omega) (V0z (m:=[]) rfl (V18 (by decide)) r0 (by simp; omega) f0 (by rw [ht0,V06,if_neg (by rw [hn0]; exact z0)]) (by decide))) (by decide) (by simp; omega)
  rw [Kfy.eq_def]
  simp [e0,f0,i0,z0,Kf8]
 have u0:=hz0 z0
 have s0:(Ktc c0).1=0:=hn0.2 z0
 have o0:=V11 (out:=[]) (nd:=[]) (us:=[]) (w:=0) (t:=⟨2,N,ty,[k0,k1]⟩) (m:=[]) rfl (V18 (by decide)) r0 (by simp; omega) f0 (by rw [ht0,V06,if_pos s0]) (V03 (show (2:Int) ≠ 10 by decide)) na (by simp <;> omega) (by simp) (by simp) (by simp) (by simp)
 have m1:Kzq ⟨2,N,ty,[k0,k1]⟩ [y0] 1=some []:=V1a (by decide) (V12 (by decide) rfl)
 by_cases f1:x1.ffault=0
 rotate_left
 ·have e1:Kg0 (s,ctx,⟨2,N,ty,[k0,k1]⟩,1)=some ⟨[],[],x1.ffault,1 :: x1.fpath⟩:=V0x (i:=1) rfl r1 (by omega) f1
  refine V0v.bad (f:=x1.ffault) (p:=1 :: x1.fpath) ?_ (V01 (by omega) (o0.trans (V0y (m:=[]) rfl m1 r1 (by omega) (by simp; omega) f1))) f1 (by have:=r1.pl; simp; omega)
  rw [Kfy.eq_def]
  simp [e0,f0,i0,z0,Kg1.eq_def,e1,f1]
 obtain ⟨g1,q1,b,nb,lb,bb⟩:=r1.gd f1
 obtain ⟨c1,t1,ht1,hn1,hz1⟩:=V1h hs g1
 have L1:=Kz8 g1
 have e1:Kg0 (s,ctx,⟨2,N,ty,[k0,k1]⟩,1)=some x1:=V0w (i:=1) rfl r1 f1
 have i1:idx x1.fty 0=some c1:=by rw [ht1]; rfl
 by_cases z1:c1=0
 rotate_left
 ·refine V0v.bad (f:=2) (p:=[]) ?_ (V01 (by omega) (o0.trans (V0z (m:=[]) rfl m1 r1 (by simp; omega) f1 (by rw [ht1,V06,if_neg (by rw [hn1]; exact z1)]) (by decide)))) (by decide) (by simp; omega)
  rw [Kfy.eq_def]
  simp [e0,f0,i0,z0,e1,f1,i1,z1,Kf8,Kg1.eq_def]
 have u1:=hz1 z1
 have s1:(Ktc c1).1=0:=hn1.2 z1
 have o1:=V11 (out:=[y0]) (nd:=[Kxh a]) (us:=[Kxh []]) (w:=1) (t:=⟨2,N,ty,[k0,k1]⟩) (m:=[]) rfl m1 r1 (by simp; omega) f1 (by rw [ht1,V06,if_pos s1]) (V03 (show (2:Int) ≠ 10 by decide)) nb (by simp <;> omega) (by simp) (by simp) (by simp) (by simp)
 have hf:=V0k (N:=N) (ty:=ty) (ks:=[k0,k1]) (ctx:=ctx) (us:=[Kxh [],Kxh []]) (z:=Kxh (List.replicate ctx.length 0)) (y0:=y0) (y1:=y1) hs ba bb (by omega) (by omega)
 have im:=V02 (p0:=⟨s⟩) (t:=⟨2,N,ty,[k0,k1]⟩) (ctx:=ctx) (by omega) (o0.trans (o1.trans (Kzt (Nat.le_refl _)))) hf
 replace im:=V1d (q:=[0]) (ns:=Kxu s n a b) (kids:=[y0,y1]) (by decide) im
 refine V0v.good (q:=[0]) (ns:=Kxu s n a b) (kids:=[y0,y1]) ?_ im (by omega) Kze (by unfold Kxu; rw [List.length_zipWith]; omega) (Ky0 hs ba bb) rfl (kd2 (V0u.mk' (V12 (by decide) rfl) r0 f0 (fun _ h=>by cases h) rfl) (V0u.mk' (V12 (by decide) rfl) r1 f1 (fun _ h=>by cases h) rfl))
 rw [Kfy.eq_def]
 simp [e0,f0,i0,z0,e1,f1,i1,z1,na,nb,u1,V0d,Ky7 hs a b ba bb (by omega) (by omega),Kg1.eq_def]
theorem V1o (ih:V1c s n (tsz (⟨3,N,ty,ks⟩:K01))) (h:tOk (gN s.fSize true) (yN s.fSize true) ctx.length ⟨3,N,ty,ks⟩=true) (hc:∀ q ∈ ctx,TyS s q) (hb:ctx.length + 2 * tsz (⟨3,N,ty,ks⟩:K01) ≤ 1000000):∃ x y,V0v s n ctx ⟨3,N,ty,ks⟩ x y:=by
 obtain ⟨k0,k1,k2,rfl,p0,p1,p2⟩:=nd3 h (Nat.le_refl _) rfl
 have hz:=Kxf 3 N ty k0 k1 k2
 obtain ⟨x0,y0,r0⟩:=ih k0 ctx p0 hc (by omega)
 obtain ⟨x1,y1,r1⟩:=ih k1 ctx p1 hc (by omega)
 obtain ⟨x2,y2,r2⟩:=ih k2 ctx p2 hc (by omega)
 by_cases f0:x0.ffault=0
 rotate_left
 ·exact V1e (by decide) (by decide) (by decide) hb r0 f0
 obtain ⟨g0,q0,a,na,la,ba⟩:=r0.gd f0
 obtain ⟨c0,t0,ht0,hn0,hz0⟩:=V1h hs g0
 have L0:=Kz8 g0
 have e0:Kg0 (s,ctx,⟨3,N,ty,[k0,k1,k2]⟩,0)=some x0:=V0w (i:=0) rfl r0 f0
 have i0:idx x0.fty 0=some c0:=by rw [ht0]; rfl
 by_cases z0:c0=0
 rotate_left
 ·refine V0v.bad (f:=2) (p:=[]) ?_ (V01 (by omega) (V0z (m:=[]) rfl (V18 (by decide)) r0 (by simp; omega) f0 (by rw [ht0,V07,if_neg (by rw [hn0]; exact z0)]) (by decide))) (by decide) (by simp; omega)
  rw [Kfy.eq_def]
  simp [e0,f0,i0,z0,Kf8]
 have u0:=hz0 z0
 have s0:(Ktc c0).1=0:=hn0.2 z0
 have o0:=V11 (out:=[]) (nd:=[]) (us:=[]) (w:=0) (t:=⟨3,N,ty,[k0,k1,k2]⟩) (m:=[]) rfl (V18 (by decide)) r0 (by simp; omega) f0 (by rw [ht0,V07,if_pos s0]) (V03 (show (3:Int) ≠ 10 by decide)) na (by simp <;> omega) (by simp) (by simp) (by simp) (by simp)
 have m1:Kzq ⟨3,N,ty,[k0,k1,k2]⟩ [y0] 1=some []:=V1a (by decide) (V12 (by decide) rfl)
 by_cases f1:x1.ffault=0
 rotate_left
 ·have e1:Kg0 (s,ctx,⟨3,N,ty,[k0,k1,k2]⟩,1)=some ⟨[],[],x1.ffault,1 :: x1.fpath⟩:=V0x (i:=1) rfl r1 (by omega) f1
  refine V0v.bad (f:=x1.ffault) (p:=1 :: x1.fpath) ?_ (V01 (by omega) (o0.trans (V0y (m:=[]) rfl m1 r1 (by omega) (by simp; omega) f1))) f1 (by have:=r1.pl; simp; omega)
  rw [Kfy.eq_def]
  simp [e0,f0,i0,z0,Kg1.eq_def,e1,f1]
 obtain ⟨g1,q1,b,nb,lb,bb⟩:=r1.gd f1
 obtain ⟨c1,t1,ht1,hn1,hz1⟩:=V1h hs g1
 have L1:=Kz8 g1
 have e1:Kg0 (s,ctx,⟨3,N,ty,[k0,k1,k2]⟩,1)=some x1:=V0w (i:=1) rfl r1 f1
 have o1:=V11 (out:=[y0]) (nd:=[Kxh a]) (us:=[Kxh []]) (w:=1) (t:=⟨3,N,ty,[k0,k1,k2]⟩) (m:=[]) rfl m1 r1 (by simp; omega) f1 (by rw [ht1]; exact V05 (.inr (by decide))) (V03 (show (3:Int) ≠ 10 by decide)) nb (by simp <;> omega) (by simp) (by simp) (by simp) (by simp)
 have m2:Kzq ⟨3,N,ty,[k0,k1,k2]⟩ [y0,y1] 2=some []:=V1a (by decide) (V12 (by decide) rfl)
 by_cases f2:x2.ffault=0
 rotate_left
 ·have e2:Kg0 (s,ctx,⟨3,N,ty,[k0,k1,k2]⟩,2)=some ⟨[],[],x2.ffault,2 :: x2.fpath⟩:=V0x (i:=2) rfl r2 (by omega) f2
  refine V0v.bad (f:=x2.ffault) (p:=2 :: x2.fpath) ?_ (V01 (by omega) (o0.trans (o1.trans (V0y (m:=[]) rfl m2 r2 (by omega) (by simp; omega) f2)))) f2 (by have:=r2.pl; simp; omega)
  rw [Kfy.eq_def]
  simp [e0,f0,i0,z0,e1,f1,Kg1.eq_def,e2,f2]
 obtain ⟨g2,q2,d,nd,ld,bd⟩:=r2.gd f2
 obtain ⟨c2,t2,ht2,hn2,hz2⟩:=V1h hs g2
 have L2:=Kz8 g2
 have e2:Kg0 (s,ctx,⟨3,N,ty,[k0,k1,k2]⟩,2)=some x2:=V0w (i:=2) rfl r2 f2
 have o2:=V11 (out:=[y0,y1]) (nd:=[Kxh a,Kxh b]) (us:=[Kxh [],Kxh []]) (w:=2) (t:=⟨3,N,ty,[k0,k1,k2]⟩) (m:=[]) rfl m2 r2 (by simp; omega) f2 (by rw [ht2]; exact V05 (.inr (by decide))) (V03 (show (3:Int) ≠ 10 by decide)) nd (by simp <;> omega) (by simp) (by simp) (by simp) (by simp)
 have hf:=V0l (N:=N) (ty:=ty) (ks:=[k0,k1,k2]) (ctx:=ctx) (us:=[Kxh [],Kxh [],Kxh []]) (z:=Kxh (List.replicate ctx.length 0)) (y0:=y0) (y1:=y1) (y2:=y2) hs ba bb bd (by omega) (by omega) (by omega) (by rw [r2.ty]; omega) (by rw [r1.ty]; omega)
 have hl0:=o0.trans (o1.trans (o2.trans (Kzt (Nat.le_refl _))))
 
 have hsm:=Kwt x1.fty x2.fty (by omega)
 have lj:(Kxw s n b d).length=ctx.length:=by unfold Kxw; rw [List.length_zipWith]; omega
 rw [r1.ty,r2.ty] at hf
 by_cases hq:x1.fty=x2.fty
 ·rw [if_pos hq] at hf
  have im:=V02 (by omega) hl0 hf
  replace im:=V1d (q:=x1.fty) (ns:=Kxu s n a (Kxw s n b d)) (kids:=[y0,y1,y2]) (by omega) im
  refine V0v.good (q:=x1.fty) (ns:=Kxu s n a (Kxw s n b d)) (kids:=[y0,y1,y2]) ?_ im (by omega) g1 (by unfold Kxu; rw [List.length_zipWith]; omega) (Ky0 hs ba (Ky2 hs bb bd)) rfl (kd3 (V0u.mk' (V12 (by decide) rfl) r0 f0 (fun _ h=>by cases h) rfl) (V0u.mk' (V12 (by decide) rfl) r1 f1 (fun _ h=>by cases h) rfl) (V0u.mk' (V12 (by decide) rfl) r2 f2 (fun _ h=>by cases h) rfl))
  rw [show (x1.fty == x2.fty)=true from beq_iff_eq.2 hq] at hsm
  rw [Kfy.eq_def]
  simp [e0,f0,i0,z0,e1,f1,e2,f2,hsm,na,nb,nd,Ky9 hs b d bb bd (by omega) (by omega),Ky7 hs a (Kxw s n b d) ba (Ky2 hs bb bd) (by omega) (by omega),Kg1.eq_def]
 ·rw [if_neg hq] at hf
  refine V0v.bad (f:=3) (p:=[]) ?_ (V02 (by omega) hl0 hf) (by decide) (by simp; omega)
  rw [show (x1.fty == x2.fty)=false from beq_eq_false_iff_ne.2 hq] at hsm
  rw [Kfy.eq_def]
  simp [e0,f0,i0,z0,e1,f1,e2,f2,hsm,Kg1.eq_def,Kf8]
end
theorem V1p (g:Nat) (h:g ≤ 15):Ktc (3 + (g:Int))=(3,(g:Int)):=by
 rcases Kte (3 + (g:Int)) with h | h | h | h | h | h | h | h <;> first | omega | (obtain ⟨_,e⟩:=h; rw [e]; congr 1; omega)
theorem V1q (g:Nat) (h:g ≤ 15):Ktc (19 + (g:Int))=(4,(g:Int)):=by
 rcases Kte (19 + (g:Int)) with h | h | h | h | h | h | h | h <;> first | omega | (obtain ⟨_,e⟩:=h; rw [e]; congr 1; omega)
theorem V1r (g:Nat) (h:g ≤ 15):Kt5 (3 + (g:Int))=true:=by unfold Kt5 inB; simp; omega
theorem V1s (g:Nat) (h:g ≤ 15):Kt5 (19 + (g:Int))=false:=by unfold Kt5 inB; simp; omega
theorem V1t (g:Nat) (h:g ≤ 15):Kt6 (3 + (g:Int))=false:=by unfold Kt6 inB; simp; omega
theorem V1u (g:Nat) (h:g ≤ 15):Kt6 (19 + (g:Int))=true:=by unfold Kt6 inB; simp; omega
theorem V1v (g:Nat) (h:g ≤ 15):Kez (3 + (g:Int))=some (g:Int):=by
 rw [Ktu (by rcases Ktb (3 + (g:Int)) with h | h | h | h <;> omega)]
 unfold Kts
 rw [if_neg (by omega),if_neg (by omega)]
 congr 1; omega
theorem V1w (g:Nat) (h:g ≤ 15):Kez (19 + (g:Int))=some (g:Int):=by
 rw [Ktu (by rcases Ktb (19 + (g:Int)) with h | h | h | h <;> omega)]
 unfold Kts
 rw [if_neg (by omega),if_pos (by omega)]
 congr 1; omega
section
variable {s:K00} {n:Nat} (hs:Kxm s n) {ctx:List (List Int)} {N:Int} {ty:List Int} {ks:List K01}
include hs
structure V1x (s:K00) (n:Nat) (q:List Int) (c:Int):Prop where
 arr:(Ktc c).1=3→∃ (g:Nat) (a b:List Int),g < n∧g ≤ 15∧c=3 + (g:Int)∧q=c :: (a ++ b)∧Kzb s (3 + (g:Int)) a b
 pair:(Ktc c).1=1→∃ (a b:List Int),c=1∧q=c :: (a ++ b)∧Kzb s 1 a b
 sum:(Ktc c).1=2→∃ (a b:List Int),c=2∧q=c :: (a ++ b)∧Kzb s 2 a b
 box:(Ktc c).1=4→∃ (g:Nat) (a:List Int),g < n∧g ≤ 15∧c=19 + (g:Int)∧q=c :: a∧Kzc s (19 + (g:Int)) a
 arrB:Kt5 c=true ↔ (Ktc c).1=3
 boxB:Kt6 c=true ↔ (Ktc c).1=4
 one:c=1 ↔ (Ktc c).1=1
 two:c=2 ↔ (Ktc c).1=2
theorem V1y {q:List Int} (hq:TyS s q) {c:Int} {r:List Int} (e:q=c :: r):V1x s n q c:=by
 rcases Kzh hs hq with rfl | ⟨a,b,rfl,P⟩ | ⟨a,b,rfl,P⟩ | ⟨g,a,b,hg,h15,rfl,P⟩ | ⟨g,a,hg,h15,rfl,P⟩
 ·cases e
  refine ⟨fun h=>?_,fun h=>?_,fun h=>?_,fun h=>?_,by decide,by decide,by decide,by decide⟩ <;> exact absurd h (by decide)
 ·cases e
  refine ⟨fun h=>absurd h (by decide),fun _=>⟨a,b,rfl,rfl,P⟩,fun h=>absurd h (by decide),fun h=>absurd h (by decide),by decide,by decide,by decide,by decide⟩
 ·cases e
  refine ⟨fun h=>absurd h (by decide),fun h=>absurd h (by decide),fun _=>⟨a,b,rfl,rfl,P⟩,fun h=>absurd h (by decide),by decide,by decide,by decide,by decide⟩
 ·cases e
  have hsh:=V1p g h15
  refine ⟨fun _=>⟨g,a,b,hg,h15,rfl,rfl,P⟩,fun h=>?_,fun h=>?_,fun h=>?_,?_,?_,?_,?_⟩
  ·rw [hsh] at h; simp at h
  ·rw [hsh] at h; simp at h
  ·rw [hsh] at h; simp at h
  ·rw [hsh,V1r g h15]; simp
  ·rw [hsh,V1t g h15]; simp
  ·rw [hsh]; simp; omega
  ·rw [hsh]; simp; omega
 ·cases e
  have hsh:=V1q g h15
  refine ⟨fun h=>?_,fun h=>?_,fun h=>?_,fun _=>⟨g,_,hg,h15,rfl,rfl,P⟩,?_,?_,?_,?_⟩
  ·rw [hsh] at h; simp at h
  ·rw [hsh] at h; simp at h
  ·rw [hsh] at h; simp at h
  ·rw [hsh,V1s g h15]; simp
  ·rw [hsh,V1u g h15]; simp
  ·rw [hsh]; simp; omega
  ·rw [hsh]; simp; omega
theorem V1z (ih:V1c s n (tsz (⟨10,N,ty,ks⟩:K01))) (h:tOk (gN s.fSize true) (yN s.fSize true) ctx.length ⟨10,N,ty,ks⟩=true) (hc:∀ q ∈ ctx,TyS s q) (hb:ctx.length + 2 * tsz (⟨10,N,ty,ks⟩:K01) ≤ 1000000):∃ x y,V0v s n ctx ⟨10,N,ty,ks⟩ x y:=by
 obtain ⟨k0,k1,rfl,p0,p1⟩:=nd2 h (Nat.le_refl _) rfl
 have hz:=Kxe 10 N ty k0 k1
 obtain ⟨x0,y0,r0⟩:=ih k0 ctx p0 hc (by omega)
 obtain ⟨x1,y1,r1⟩:=ih k1 ctx p1 hc (by omega)
 by_cases f0:x0.ffault=0
 rotate_left
 ·exact V1e (by decide) (by decide) (by decide) hb r0 f0
 obtain ⟨g0,q0,a,na,la,ba⟩:=r0.gd f0
 obtain ⟨c0,t0,ht0,hn0,hz0⟩:=V1h hs g0
 have L0:=Kz8 g0
 have e0:Kg0 (s,ctx,⟨10,N,ty,[k0,k1]⟩,0)=some x0:=V0w (i:=0) rfl r0 f0
 have C:=V1y hs g0 ht0
 have i0:idx x0.fty 0=some c0:=by rw [ht0]; rfl
 by_cases z0:(Ktc c0).1=3
 rotate_left
 ·have w0:Kt5 c0=false:=by cases h:Kt5 c0 with | true=>exact absurd (C.arrB.1 h) z0 | false=>rfl
  refine V0v.bad (f:=6) (p:=[]) ?_ (V01 (by omega) (V0z (m:=[]) rfl (V18 (by decide)) r0 (by simp; omega) f0 (by rw [ht0,V08,if_neg z0]) (by decide))) (by decide) (by simp; omega)
  rw [Kfy.eq_def]
  simp [e0,f0,i0,Kt8,w0,Kf8]
 obtain ⟨g,p,q,hg,h15,hcg,hq,P⟩:=C.arr z0
 have w0:Kt5 c0=true:=C.arrB.2 z0
 have o0:=V11 (out:=[]) (nd:=[]) (us:=[]) (w:=0) (t:=⟨10,N,ty,[k0,k1]⟩) (m:=[]) rfl (V18 (by decide)) r0 (by simp; omega) f0 (by rw [ht0,V08,if_pos z0]) (V04 (by decide)) na (by simp <;> omega) (by simp) (by simp) (by simp) (by simp)
 have m1:Kzq ⟨10,N,ty,[k0,k1]⟩ [y0] 1=some []:=V1a (by decide) (V12 (by decide) rfl)
 by_cases f1:x1.ffault=0
 rotate_left
 ·have e1:Kg0 (s,ctx,⟨10,N,ty,[k0,k1]⟩,1)=some ⟨[],[],x1.ffault,1 :: x1.fpath⟩:=V0x (i:=1) rfl r1 (by omega) f1
  refine V0v.bad (f:=x1.ffault) (p:=1 :: x1.fpath) ?_ (V01 (by omega) (o0.trans (V0y (m:=[]) rfl m1 r1 (by omega) (by simp; omega) f1))) f1 (by have:=r1.pl; simp; omega)
  rw [Kfy.eq_def]
  simp [e0,f0,i0,Kt8,w0,e1,f1]
 obtain ⟨g1,q1,b,nb,lb,bb⟩:=r1.gd f1
 obtain ⟨c1,t1,ht1,hn1,hz1⟩:=V1h hs g1
 have L1:=Kz8 g1
 have e1:Kg0 (s,ctx,⟨10,N,ty,[k0,k1]⟩,1)=some x1:=V0w (i:=1) rfl r1 f1
 have hp0:Kew (x0.fty,0)=some p:=by rw [hq,hcg]; exact P.p0
 have hp1:Kew (x0.fty,1)=some q:=by rw [hq,hcg]; exact P.p1
 have hpp:Klv y0.fty=some [p,q]:=by rw [r0.ty,hq,hcg]; exact P.pp
 have Lp:=Kz8 P.ya
 have Lq:=Kz8 P.yb
 have hsm:=Kwt x1.fty p (by omega)
 have hsi:=Kwv x1.fty p (by omega)
 have ha:Kzw ⟨10,N,ty,[k0,k1]⟩ [y0] 1 y1=some (!(x1.fty == p)):=by
  unfold Kzw
  rw [if_pos (show ((10:Int) == 10)=true by decide),if_pos (by decide),V0d,bs,hpp,bs,V0d,bs,r1.ty,hsi,bs]
 by_cases hqq:x1.fty=p
 rotate_left
 ·rw [show (x1.fty == p)=false from beq_eq_false_iff_ne.2 hqq] at hsm ha
  refine V0v.bad (f:=3) (p:=[]) ?_ (V01 (by omega) (o0.trans (V10 (m:=[]) rfl m1 r1 (by simp; omega) f1 (by rw [ht1]; exact V05 (.inr (by decide))) ha))) (by decide) (by simp; omega)
  rw [Kfy.eq_def]
  simp [e0,f0,i0,Kt8,w0,e1,f1,hp0,hsm,Kf8]
 rw [show (x1.fty == p)=true from beq_iff_eq.2 hqq] at hsm ha
 have o1:=V11 (out:=[y0]) (nd:=[Kxh a]) (us:=[Kxh []]) (w:=1) (t:=⟨10,N,ty,[k0,k1]⟩) (m:=[]) rfl m1 r1 (by simp; omega) f1 (by rw [ht1]; exact V05 (.inr (by decide))) ha nb (by simp <;> omega) (by simp) (by simp) (by simp) (by simp)
 have hf:=V0p (N:=N) (ty:=ty) (ks:=[k0,k1]) (ctx:=ctx) (us:=[Kxh [],Kxh []]) (z:=Kxh (List.replicate ctx.length 0)) (y0:=y0) (y1:=y1) hs hg (p:=p) (q:=q) (by rw [r0.ty,hq,hcg]) P ba bb (by omega) (by omega)
 have im:=V1d (q:=q) (ns:=Kxu s n a (Kxv s n g b)) (kids:=[y0,y1]) Lq (V02 (p0:=⟨s⟩) (t:=⟨10,N,ty,[k0,k1]⟩) (ctx:=ctx) (by omega) (o0.trans (o1.trans (Kzt (Nat.le_refl _)))) hf)
 have lsc:(Kxv s n g b).length=ctx.length:=by unfold Kxv; rw [List.length_map]; exact lb
 refine V0v.good (q:=q) (ns:=Kxu s n a (Kxv s n g b)) (kids:=[y0,y1]) ?_ im (by omega) P.yb (by unfold Kxu; rw [List.length_zipWith]; omega) (Ky0 hs ba (Ky1 hs hg bb)) rfl (kd2 (V0u.mk' (V12 (by decide) rfl) r0 f0 (fun _ h=>by cases h) rfl) (V0u.mk' (V12 (by decide) rfl) r1 f1 (fun _ h=>by cases h) rfl))
 have hgr:Kez c0=some (g:Int):=by rw [hcg]; exact V1v g h15
 rw [Kfy.eq_def]
 simp [e0,f0,i0,Kt8,w0,e1,f1,hp0,hp1,hsm,hgr,na,nb,Ky6 hs g hg a b ba bb (by omega) (by omega)]
theorem V20 (ih:V1c s n (tsz (⟨5,N,ty,ks⟩:K01))) (h:tOk (gN s.fSize true) (yN s.fSize true) ctx.length ⟨5,N,ty,ks⟩=true) (hc:∀ q ∈ ctx,TyS s q) (hb:ctx.length + 2 * tsz (⟨5,N,ty,ks⟩:K01) ≤ 1000000):∃ x y,V0v s n ctx ⟨5,N,ty,ks⟩ x y:=by
 obtain ⟨k0,k1,rfl,p0,p1⟩:=nd2 h (Nat.le_refl _) rfl
 have hz:=Kxe 5 N ty k0 k1
 obtain ⟨g,hN,hg⟩:=Kzk hs (Kzm h rfl)
 simp only at hN
 subst hN
 obtain ⟨x0,y0,r0⟩:=ih k0 ctx p0 hc (by omega)
 by_cases f0:x0.ffault=0
 rotate_left
 ·exact V1e (by decide) (by decide) (by decide) hb r0 f0
 obtain ⟨g0,q0,a,na,la,ba⟩:=r0.gd f0
 obtain ⟨c0,t0,ht0,hn0,hz0⟩:=V1h hs g0
 have L0:=Kz8 g0
 have e0:Kg0 (s,ctx,⟨5,(g:Int),ty,[k0,k1]⟩,0)=some x0:=V0w (i:=0) rfl r0 f0
 have C:=V1y hs g0 ht0
 have i0:idx x0.fty 0=some c0:=by rw [ht0]; rfl
 by_cases z0:(Ktc c0).1=1
 rotate_left
 ·have w0:c0 ≠ 1:=fun h=>z0 (C.one.1 h)
  refine V0v.bad (f:=4) (p:=[]) ?_ (V01 (by omega) (V0z (m:=[]) rfl (V18 (by decide)) r0 (by simp; omega) f0 (by rw [ht0,V09 hs hg,if_neg z0]) (by decide))) (by decide) (by simp; omega)
  rw [Kfy.eq_def]
  simp [e0,f0,i0,Kfz.eq_def,w0,Kf8]
 obtain ⟨p,q,hcg,hq,P⟩:=C.pair z0
 have hle:=sLe hs.tab (Kxo hs) hg
 cases hl:le s n 1 g with
 | false =>
  have hl2:Kbs (s,1,(g:Int))=some false:=by rw [← hl]; exact hle
  refine V0v.bad (f:=8) (p:=[]) ?_ (V01 (by omega) (V0z (m:=[]) rfl (V18 (by decide)) r0 (by simp; omega) f0 (by rw [ht0,V09 hs hg,if_pos z0,hl]; rfl) (by decide))) (by decide) (by simp; omega)
  rw [Kfy.eq_def]
  simp [e0,f0,i0,Kfz.eq_def,hcg,hl2,Kf8]
 | true =>
 have hl2:Kbs (s,1,(g:Int))=some true:=by rw [← hl]; exact hle
 have o0:=V11 (out:=[]) (nd:=[]) (us:=[]) (w:=0) (t:=⟨5,(g:Int),ty,[k0,k1]⟩) (m:=[]) rfl (V18 (by decide)) r0 (by simp; omega) f0 (by rw [ht0,V09 hs hg,if_pos z0,hl]; rfl) (V03 (show (5:Int) ≠ 10 by decide)) na (by simp <;> omega) (by simp) (by simp) (by simp) (by simp)
 have hp0:Kew (x0.fty,0)=some p:=by rw [hq,hcg]; exact P.p0
 have hp1:Kew (x0.fty,1)=some q:=by rw [hq,hcg]; exact P.p1
 have ad:Kly (⟨5,(g:Int),ty,[k0,k1]⟩,((1:Nat):Int),y0.fty)=some [q,p]:=by rw [r0.ty,hq,hcg]; exact V14 P
 have hm':∀ z ∈ [q,p],TyS s z:=fun z hz=>by simp at hz; rcases hz with rfl | rfl; exact P.yb; exact P.ya
 have m1:Kzq ⟨5,(g:Int),ty,[k0,k1]⟩ [y0] 1=some [q,p]:=V1a (by decide) ad
 have p1':Kzl s ([q,p] ++ ctx).length k1 (tsz (⟨5,(g:Int),ty,[k0,k1]⟩:K01)):=by
  have e:([q,p] ++ ctx).length=ctx.length + Kuh 5 1:=by simp [Kuh]
  rw [e]; exact p1
 obtain ⟨x1,y1,r1⟩:=ih k1 ([q,p] ++ ctx) p1' (fun z hz=>by rcases List.mem_append.1 hz with hz | hz; exact hm' z hz; exact hc z hz) (by simp; omega)
 have hwc:=Kyk ctx [q,p] (by simp; omega)
 by_cases f1:x1.ffault=0
 rotate_left
 ·have e1:Kg0 (s,q :: p :: ctx,⟨5,(g:Int),ty,[k0,k1]⟩,1)=some ⟨[],[],x1.ffault,1 :: x1.fpath⟩:=V0x (i:=1) rfl r1 (by omega) f1
  refine V0v.bad (f:=x1.ffault) (p:=1 :: x1.fpath) ?_ (V01 (by omega) (o0.trans (V0y (m:=[q,p]) rfl m1 r1 (by omega) (by simp; omega) f1))) f1 (by have:=r1.pl; simp; omega)
  rw [Kfy.eq_def]
  simp [e0,f0,i0,Kfz.eq_def,hcg,hl2,hp0,hp1,hwc,e1,f1]
 obtain ⟨g1,q1,b,nb,lb,bb⟩:=r1.gd f1
 obtain ⟨c1,t1,ht1,hn1,hz1⟩:=V1h hs g1
 have L1:=Kz8 g1
 have e1:Kg0 (s,q :: p :: ctx,⟨5,(g:Int),ty,[k0,k1]⟩,1)=some x1:=V0w (i:=1) rfl r1 f1
 have lb':b.length=ctx.length + 2:=by rw [lb]; simp
 obtain ⟨u0,u1,b',rfl⟩:∃ u0 u1 b',b=u0 :: u1 :: b':=by match b,lb' with | u0 :: u1 :: b',_=>exact ⟨u0,u1,b',rfl⟩ | [_],h=>simp at h | [],h=>simp at h
 obtain ⟨hu0,bb1⟩:=Kxy bb
 obtain ⟨hu1,bb'⟩:=Kxy bb1
 have o1:=V11 (out:=[y0]) (nd:=[Kxh a]) (us:=[Kxh []]) (w:=1) (t:=⟨5,(g:Int),ty,[k0,k1]⟩) (m:=[q,p]) rfl m1 r1 (by simp; omega) f1 (by rw [ht1]; exact V05 (.inr (by decide))) (V03 (show (5:Int) ≠ 10 by decide)) nb (by simp <;> omega) (by simp) (by simp) (by simp) (by simp)
 simp only [List.length_cons,List.length_nil,Nat.zero_add,List.drop_succ_cons,List.drop_zero,List.take_succ_cons,List.take_zero,List.nil_append] at o1
 have hl0:=o0.trans (o1.trans (Kzt (Nat.le_refl _)))
 have lbc:b'.length=ctx.length:=by simp at lb'; omega
 have i1:idx x1.fneeds 0=some (u0:Int):=by rw [nb]; rfl
 have hcut:cut x1.fneeds (some (2:Int)) none none=some (Kxh b'):=by
  rw [nb]
  have:=Kzv (l:=Kxh (u0 :: u1 :: b')) (m:=2) (by simp [Kxh])
  exact this
 have hcp:=Kv2 (Kxh b') (by rw [Kxi]; omega)
 have i2:idx x1.fneeds 1=some (u1:Int):=by rw [nb]; rfl
 have hle0:=sLe hs.tab hu0 hg
 have hle1:=sLe hs.tab hu1 hg
 have hf:=V0q (ty:=ty) (ks:=[k0,k1]) (ctx:=ctx) (z:=Kxh (List.replicate ctx.length 0)) (y0:=y0) (y1:=y1) (us':=Kxh []) (u:=[u0,u1]) hs hg (fun x hx=>by simp at hx; rcases hx with rfl | rfl; exact hu0; exact hu1) (by simp) ba bb' (by omega) (by omega) (by rw [r1.ty]; omega)
 simp only [List.all_cons,List.all_nil,Bool.and_true] at hf
 have es:=e1
 cases hal:(le s n u0 g && le s n u1 g) with
 | false =>
  rw [hal,if_neg (by decide)] at hf
  refine V0v.bad (f:=9) (p:=[]) ?_ (V02 (by omega) hl0 hf) (by decide) (by simp; omega)
  rw [Kfy.eq_def]
  simp [e0,f0,i0,Kfz.eq_def,hcg,hl2,hp0,hp1,hwc,e1,f1,i1,i2,hcut,hcp,hle0,hle1,Kf8]
  cases q1:le s n u1 g with
  | false=>simp
  | true=>rw [q1,Bool.and_true] at hal; simp [hal]
 | true =>
  rw [hal,if_pos rfl] at hf
  have im:=V1d (q:=y1.fty) (ns:=Kxu s n (Kxv s n g a) b') (kids:=[y0,y1]) (by rw [r1.ty]; omega) (V02 (by omega) hl0 hf)
  rw [r1.ty] at im
  have lsc:(Kxv s n g a).length=ctx.length:=by unfold Kxv; rw [List.length_map]; exact la
  have hsc:=Ky1 hs hg ba
  have hz0:=Ky4 hs hsc
  rw [lsc] at hz0
  have hsum:=Ky6 hs g hg (List.replicate ctx.length 0) a (fun x hx=>by rw [List.eq_of_mem_replicate hx]; exact Kxp hs) ba (by simp; omega) (by simp [la])
  rw [hz0] at hsum
  have hs2:=Ky7 hs (Kxv s n g a) b' hsc bb' (by omega) (by omega)
  refine V0v.good (q:=x1.fty) (ns:=Kxu s n (Kxv s n g a) b') (kids:=[y0,y1]) ?_ im (by omega) g1 (by unfold Kxu; rw [List.length_zipWith]; omega) (Ky0 hs hsc bb') rfl (kd2 (V0u.mk' (V12 (by decide) rfl) r0 f0 (fun _ h=>by cases h) rfl) (V0u.mk' ad r1 f1 hm' rfl))
  rw [Kfy.eq_def]
  rw [Bool.and_eq_true] at hal
  simp [e0,f0,i0,Kfz.eq_def,hcg,hl2,hp0,hp1,hwc,e1,f1,i1,i2,hcut,hcp,hle0,hle1,hal.1,hal.2,na,Kyj ctx.length (by omega),hsum,hs2]
theorem V21 (ih:V1c s n (tsz (⟨12,N,ty,ks⟩:K01))) (h:tOk (gN s.fSize true) (yN s.fSize true) ctx.length ⟨12,N,ty,ks⟩=true) (hc:∀ q ∈ ctx,TyS s q) (hb:ctx.length + 2 * tsz (⟨12,N,ty,ks⟩:K01) ≤ 1000000):∃ x y,V0v s n ctx ⟨12,N,ty,ks⟩ x y:=by
 obtain ⟨k0,k1,rfl,p0,p1⟩:=nd2 h (Nat.le_refl _) rfl
 have hz:=Kxe 12 N ty k0 k1
 obtain ⟨g,hN,hg⟩:=Kzk hs (Kzm h rfl)
 simp only at hN
 subst hN
 obtain ⟨x0,y0,r0⟩:=ih k0 ctx p0 hc (by omega)
 by_cases f0:x0.ffault=0
 rotate_left
 ·exact V1e (by decide) (by decide) (by decide) hb r0 f0
 obtain ⟨g0,q0,a,na,la,ba⟩:=r0.gd f0
 obtain ⟨c0,t0,ht0,hn0,hz0⟩:=V1h hs g0
 have L0:=Kz8 g0
 have e0:Kg0 (s,ctx,⟨12,(g:Int),ty,[k0,k1]⟩,0)=some x0:=V0w (i:=0) rfl r0 f0
 have C:=V1y hs g0 ht0
 have i0:idx x0.fty 0=some c0:=by rw [ht0]; rfl
 by_cases z0:(Ktc c0).1=4
 rotate_left
 ·have w0:Kt6 c0=false:=by cases h:Kt6 c0 with | true=>exact absurd (C.boxB.1 h) z0 | false=>rfl
  refine V0v.bad (f:=7) (p:=[]) ?_ (V01 (by omega) (V0z (m:=[]) rfl (V18 (by decide)) r0 (by simp; omega) f0 (by rw [ht0,V0b hs hg,if_neg z0]) (by decide))) (by decide) (by simp; omega)
  rw [Kfy.eq_def]
  simp [e0,f0,i0,Kfz.eq_def,Kt9,w0,Kf8]
 obtain ⟨m,p,hm,h15,hcg,hq,P⟩:=C.box z0
 have w0:Kt6 c0=true:=C.boxB.2 z0
 have hle:=sLe hs.tab (Kxo hs) hg
 cases hl:le s n 1 g with
 | false =>
  have hl2:Kbs (s,1,(g:Int))=some false:=by rw [← hl]; exact hle
  refine V0v.bad (f:=8) (p:=[]) ?_ (V01 (by omega) (V0z (m:=[]) rfl (V18 (by decide)) r0 (by simp; omega) f0 (by rw [ht0,V0b hs hg,if_pos z0,hl]; rfl) (by decide))) (by decide) (by simp; omega)
  rw [Kfy.eq_def]
  simp [e0,f0,i0,Kfz.eq_def,Kt9,w0,hl2,Kf8]
 | true =>
 have hl2:Kbs (s,1,(g:Int))=some true:=by rw [← hl]; exact hle
 have o0:=V11 (out:=[]) (nd:=[]) (us:=[]) (w:=0) (t:=⟨12,(g:Int),ty,[k0,k1]⟩) (m:=[]) rfl (V18 (by decide)) r0 (by simp; omega) f0 (by rw [ht0,V0b hs hg,if_pos z0,hl]; rfl) (V03 (show (12:Int) ≠ 10 by decide)) na (by simp <;> omega) (by simp) (by simp) (by simp) (by simp)
 have hp0:Kew (x0.fty,0)=some p:=by rw [hq,hcg]; exact P.p0
 have ad:Kly (⟨12,(g:Int),ty,[k0,k1]⟩,((1:Nat):Int),y0.fty)=some [p]:=by rw [r0.ty,hq,hcg]; exact V17 P
 have hm':∀ z ∈ [p],TyS s z:=fun z hz=>by simp at hz; rw [hz]; exact P.ya
 have hgr:Kez c0=some (m:Int):=by rw [hcg]; exact V1w m h15
 have m1:Kzq ⟨12,(g:Int),ty,[k0,k1]⟩ [y0] 1=some [p]:=V1a (by decide) ad
 have p1':Kzl s ([p] ++ ctx).length k1 (tsz (⟨12,(g:Int),ty,[k0,k1]⟩:K01)):=by
  have e:([p] ++ ctx).length=ctx.length + Kuh 12 1:=by simp [Kuh]
  rw [e]; exact p1
 obtain ⟨x1,y1,r1⟩:=ih k1 ([p] ++ ctx) p1' (fun z hz=>by rcases List.mem_append.1 hz with hz | hz; exact hm' z hz; exact hc z hz) (by simp; omega)
 have hwc:=Kyk ctx [p] (by simp; omega)
 by_cases f1:x1.ffault=0
 rotate_left
 ·have e1:Kg0 (s,p :: ctx,⟨12,(g:Int),ty,[k0,k1]⟩,1)=some ⟨[],[],x1.ffault,1 :: x1.fpath⟩:=V0x (i:=1) rfl r1 (by omega) f1
  refine V0v.bad (f:=x1.ffault) (p:=1 :: x1.fpath) ?_ (V01 (by omega) (o0.trans (V0y (m:=[p]) rfl m1 r1 (by omega) (by simp; omega) f1))) f1 (by have:=r1.pl; simp; omega)
  rw [Kfy.eq_def]
  simp [e0,f0,i0,Kfz.eq_def,Kt9,w0,hl2,hp0,hwc,e1,f1]
 obtain ⟨g1,q1,b,nb,lb,bb⟩:=r1.gd f1
 obtain ⟨c1,t1,ht1,hn1,hz1⟩:=V1h hs g1
 have L1:=Kz8 g1
 have e1:Kg0 (s,p :: ctx,⟨12,(g:Int),ty,[k0,k1]⟩,1)=some x1:=V0w (i:=1) rfl r1 f1
 have lb':b.length=ctx.length + 1:=by rw [lb]; simp
 obtain ⟨u0,b',rfl⟩:∃ u0 b',b=u0 :: b':=by match b,lb' with | u0 :: b',_=>exact ⟨u0,b',rfl⟩ | [],h=>simp at h
 obtain ⟨hu0,bb'⟩:=Kxy bb
 have o1:=V11 (out:=[y0]) (nd:=[Kxh a]) (us:=[Kxh []]) (w:=1) (t:=⟨12,(g:Int),ty,[k0,k1]⟩) (m:=[p]) rfl m1 r1 (by simp; omega) f1 (by rw [ht1]; exact V05 (.inr (by decide))) (V03 (show (12:Int) ≠ 10 by decide)) nb (by simp <;> omega) (by simp) (by simp) (by simp) (by simp)
 simp only [List.length_cons,List.length_nil,Nat.zero_add,List.drop_succ_cons,List.drop_zero,List.take_succ_cons,List.take_zero,List.nil_append] at o1
 have hl0:=o0.trans (o1.trans (Kzt (Nat.le_refl _)))
 have lbc:b'.length=ctx.length:=by simp at lb'; omega
 have i1:idx x1.fneeds 0=some (u0:Int):=by rw [nb]; rfl
 have hcut:cut x1.fneeds (some (1:Int)) none none=some (Kxh b'):=by
  rw [nb]
  have:=Kzv (l:=Kxh (u0 :: b')) (m:=1) (by simp [Kxh])
  exact this
 have hcp:=Kv2 (Kxh b') (by rw [Kxi]; omega)
 have hmul:=Ksb hs.tab hg hm
 have htm:=Ks6 hs.tab hg hm
 have hle0:=sLe hs.tab hu0 htm
 have hf:=V0r (ty:=ty) (ks:=[k0,k1]) (ctx:=ctx) (z:=Kxh (List.replicate ctx.length 0)) (y0:=y0) (y1:=y1) (us':=Kxh []) (u:=[u0]) hs hg hm (p:=p) (by rw [r0.ty,hq,hcg]) (fun x hx=>by simp at hx; rw [hx]; exact hu0) (by simp) ba bb' (by omega) (by omega) (by rw [r1.ty]; omega)
 simp only [List.all_cons,List.all_nil,Bool.and_true] at hf
 have es:=e1
 cases hal:(le s n u0 (ti s n g m)) with
 | false =>
  rw [hal,if_neg (by decide)] at hf
  refine V0v.bad (f:=9) (p:=[]) ?_ (V02 (by omega) hl0 hf) (by decide) (by simp; omega)
  rw [Kfy.eq_def]
  simp [e0,f0,i0,Kfz.eq_def,Kt9,w0,hl2,hp0,hwc,e1,f1,i1,hcut,hcp,hgr,hmul,hle0,hal,Kf8]
 | true =>
  rw [hal,if_pos rfl] at hf
  have im:=V1d (q:=y1.fty) (ns:=Kxu s n (Kxv s n g a) b') (kids:=[y0,y1]) (by rw [r1.ty]; omega) (V02 (by omega) hl0 hf)
  rw [r1.ty] at im
  have lsc:(Kxv s n g a).length=ctx.length:=by unfold Kxv; rw [List.length_map]; exact la
  have hsc:=Ky1 hs hg ba
  have hz0:=Ky4 hs hsc
  rw [lsc] at hz0
  have hsum:=Ky6 hs g hg (List.replicate ctx.length 0) a (fun x hx=>by rw [List.eq_of_mem_replicate hx]; exact Kxp hs) ba (by simp; omega) (by simp [la])
  rw [hz0] at hsum
  have hs2:=Ky7 hs (Kxv s n g a) b' hsc bb' (by omega) (by omega)
  refine V0v.good (q:=x1.fty) (ns:=Kxu s n (Kxv s n g a) b') (kids:=[y0,y1]) ?_ im (by omega) g1 (by unfold Kxu; rw [List.length_zipWith]; omega) (Ky0 hs hsc bb') rfl (kd2 (V0u.mk' (V12 (by decide) rfl) r0 f0 (fun _ h=>by cases h) rfl) (V0u.mk' ad r1 f1 hm' rfl))
  rw [Kfy.eq_def]
  simp [e0,f0,i0,Kfz.eq_def,Kt9,w0,hl2,hp0,hwc,e1,f1,i1,hcut,hcp,hgr,hmul,hle0,hal,na,Kyj ctx.length (by omega),hsum,hs2]
theorem V22 (ih:V1c s n (tsz (⟨8,N,ty,ks⟩:K01))) (h:tOk (gN s.fSize true) (yN s.fSize true) ctx.length ⟨8,N,ty,ks⟩=true) (hc:∀ q ∈ ctx,TyS s q) (hb:ctx.length + 2 * tsz (⟨8,N,ty,ks⟩:K01) ≤ 1000000):∃ x y,V0v s n ctx ⟨8,N,ty,ks⟩ x y:=by
 obtain ⟨k0,k1,k2,rfl,p0,p1,p2⟩:=nd3 h (Nat.le_refl _) rfl
 have hz:=Kxf 8 N ty k0 k1 k2
 obtain ⟨g,hN,hg⟩:=Kzk hs (Kzm h rfl)
 simp only at hN
 subst hN
 obtain ⟨x0,y0,r0⟩:=ih k0 ctx p0 hc (by omega)
 by_cases f0:x0.ffault=0
 rotate_left
 ·exact V1e (by decide) (by decide) (by decide) hb r0 f0
 obtain ⟨g0,q0,a,na,la,ba⟩:=r0.gd f0
 obtain ⟨c0,t0,ht0,hn0,hz0⟩:=V1h hs g0
 have L0:=Kz8 g0
 have e0:Kg0 (s,ctx,⟨8,(g:Int),ty,[k0,k1,k2]⟩,0)=some x0:=V0w (i:=0) rfl r0 f0
 have C:=V1y hs g0 ht0
 have i0:idx x0.fty 0=some c0:=by rw [ht0]; rfl
 by_cases z0:(Ktc c0).1=2
 rotate_left
 ·have w0:c0 ≠ 2:=fun h=>z0 (C.two.1 h)
  refine V0v.bad (f:=5) (p:=[]) ?_ (V01 (by omega) (V0z (m:=[]) rfl (V18 (by decide)) r0 (by simp; omega) f0 (by rw [ht0,V0a hs hg,if_neg z0]) (by decide))) (by decide) (by simp; omega)
  rw [Kfy.eq_def]
  simp [e0,f0,i0,Kfz.eq_def,w0,Kf8]
 obtain ⟨p,q,hcg,hq,P⟩:=C.sum z0
 have hle:=sLe hs.tab (Kxo hs) hg
 cases hl:le s n 1 g with
 | false =>
  have hl2:Kbs (s,1,(g:Int))=some false:=by rw [← hl]; exact hle
  refine V0v.bad (f:=8) (p:=[]) ?_ (V01 (by omega) (V0z (m:=[]) rfl (V18 (by decide)) r0 (by simp; omega) f0 (by rw [ht0,V0a hs hg,if_pos z0,hl]; rfl) (by decide))) (by decide) (by simp; omega)
  rw [Kfy.eq_def]
  simp [e0,f0,i0,Kfz.eq_def,hcg,hl2,Kf8]
 | true =>
 have hl2:Kbs (s,1,(g:Int))=some true:=by rw [← hl]; exact hle
 have o0:=V11 (out:=[]) (nd:=[]) (us:=[]) (w:=0) (t:=⟨8,(g:Int),ty,[k0,k1,k2]⟩) (m:=[]) rfl (V18 (by decide)) r0 (by simp; omega) f0 (by rw [ht0,V0a hs hg,if_pos z0,hl]; rfl) (V03 (show (8:Int) ≠ 10 by decide)) na (by simp <;> omega) (by simp) (by simp) (by simp) (by simp)
 have hp0:Kew (x0.fty,0)=some p:=by rw [hq,hcg]; exact P.p0
 have hp1:Kew (x0.fty,1)=some q:=by rw [hq,hcg]; exact P.p1
 have ad1:Kly (⟨8,(g:Int),ty,[k0,k1,k2]⟩,((1:Nat):Int),y0.fty)=some [p]:=by rw [r0.ty,hq,hcg]; exact V15 P
 have ad2:Kly (⟨8,(g:Int),ty,[k0,k1,k2]⟩,((2:Nat):Int),y0.fty)=some [q]:=by rw [r0.ty,hq,hcg]; exact V16 P
 have hm1:∀ z ∈ [p],TyS s z:=fun z hz=>by simp at hz; rw [hz]; exact P.ya
 have hm2:∀ z ∈ [q],TyS s z:=fun z hz=>by simp at hz; rw [hz]; exact P.yb
 have m1:Kzq ⟨8,(g:Int),ty,[k0,k1,k2]⟩ [y0] 1=some [p]:=V1a (by decide) ad1
 have p1':Kzl s ([p] ++ ctx).length k1 (tsz (⟨8,(g:Int),ty,[k0,k1,k2]⟩:K01)):=by
  have e:([p] ++ ctx).length=ctx.length + Kuh 8 1:=by simp [Kuh]
  rw [e]; exact p1
 obtain ⟨x1,y1,r1⟩:=ih k1 ([p] ++ ctx) p1' (fun z hz=>by rcases List.mem_append.1 hz with hz | hz; exact hm1 z hz; exact hc z hz) (by simp; omega)
 have hw1:=Kyk ctx [p] (by simp; omega)
 by_cases f1:x1.ffault=0
 rotate_left
 ·have e1:Kg0 (s,p :: ctx,⟨8,(g:Int),ty,[k0,k1,k2]⟩,1)=some ⟨[],[],x1.ffault,1 :: x1.fpath⟩:=V0x (i:=1) rfl r1 (by omega) f1
  refine V0v.bad (f:=x1.ffault) (p:=1 :: x1.fpath) ?_ (V01 (by omega) (o0.trans (V0y (m:=[p]) rfl m1 r1 (by omega) (by simp; omega) f1))) f1 (by have:=r1.pl; simp; omega)
  rw [Kfy.eq_def]
  simp [e0,f0,i0,Kfz.eq_def,hcg,hl2,hp0,hp1,hw1,e1,f1]
 obtain ⟨g1,q1,b,nb,lb,bb⟩:=r1.gd f1
 obtain ⟨c1,t1,ht1,hn1,hz1⟩:=V1h hs g1
 have L1:=Kz8 g1
 have e1:Kg0 (s,p :: ctx,⟨8,(g:Int),ty,[k0,k1,k2]⟩,1)=some x1:=V0w (i:=1) rfl r1 f1
 have lb':b.length=ctx.length + 1:=by rw [lb]; simp
 obtain ⟨u0,b',rfl⟩:∃ u0 b',b=u0 :: b':=by match b,lb' with | u0 :: b',_=>exact ⟨u0,b',rfl⟩ | [],h=>simp at h
 obtain ⟨hu0,bb'⟩:=Kxy bb
 have lbc:b'.length=ctx.length:=by simp at lb'; omega
 have i1:idx x1.fneeds 0=some (u0:Int):=by rw [nb]; rfl
 have hcut1:cut x1.fneeds (some (1:Int)) none none=some (Kxh b'):=by rw [nb]; exact Kwm _ _
 have hcp1:=Kv2 (Kxh b') (by rw [Kxi]; omega)
 have o1:=V11 (out:=[y0]) (nd:=[Kxh a]) (us:=[Kxh []]) (w:=1) (t:=⟨8,(g:Int),ty,[k0,k1,k2]⟩) (m:=[p]) rfl m1 r1 (by simp; omega) f1 (by rw [ht1]; exact V05 (.inr (by decide))) (V03 (show (8:Int) ≠ 10 by decide)) nb (by simp <;> omega) (by simp) (by simp) (by simp) (by simp)
 simp only [List.length_cons,List.length_nil,Nat.zero_add,List.drop_succ_cons,List.drop_zero,List.take_succ_cons,List.take_zero,List.nil_append,List.cons_append] at o1
 have m2:Kzq ⟨8,(g:Int),ty,[k0,k1,k2]⟩ [y0,y1] 2=some [q]:=V1a (by decide) ad2
 have p2':Kzl s ([q] ++ ctx).length k2 (tsz (⟨8,(g:Int),ty,[k0,k1,k2]⟩:K01)):=by
  have e:([q] ++ ctx).length=ctx.length + Kuh 8 2:=by simp [Kuh]
  rw [e]; exact p2
 obtain ⟨x2,y2,r2⟩:=ih k2 ([q] ++ ctx) p2' (fun z hz=>by rcases List.mem_append.1 hz with hz | hz; exact hm2 z hz; exact hc z hz) (by simp; omega)
 have hw2:=Kyk ctx [q] (by simp; omega)
 by_cases f2:x2.ffault=0
 rotate_left
 ·have e2:Kg0 (s,q :: ctx,⟨8,(g:Int),ty,[k0,k1,k2]⟩,2)=some ⟨[],[],x2.ffault,2 :: x2.fpath⟩:=V0x (i:=2) rfl r2 (by omega) f2
  refine V0v.bad (f:=x2.ffault) (p:=2 :: x2.fpath) ?_ (V01 (by omega) (o0.trans (o1.trans (V0y (m:=[q]) rfl m2 r2 (by omega) (by simp; omega) f2)))) f2 (by have:=r2.pl; simp; omega)
  rw [Kfy.eq_def]
  simp [e0,f0,i0,Kfz.eq_def,hcg,hl2,hp0,hp1,hw1,e1,f1,hcut1,hcp1,hw2,e2,f2]
 obtain ⟨g2,q2,d,nd,ld,bd⟩:=r2.gd f2
 obtain ⟨c2,t2,ht2,hn2,hz2⟩:=V1h hs g2
 have L2:=Kz8 g2
 have e2:Kg0 (s,q :: ctx,⟨8,(g:Int),ty,[k0,k1,k2]⟩,2)=some x2:=V0w (i:=2) rfl r2 f2
 have ld':d.length=ctx.length + 1:=by rw [ld]; simp
 obtain ⟨v0,d',rfl⟩:∃ v0 d',d=v0 :: d':=by match d,ld' with | v0 :: d',_=>exact ⟨v0,d',rfl⟩ | [],h=>simp at h
 obtain ⟨hv0,bd'⟩:=Kxy bd
 have ldc:d'.length=ctx.length:=by simp at ld'; omega
 have i2:idx x2.fneeds 0=some (v0:Int):=by rw [nd]; rfl
 have hcut2:cut x2.fneeds (some (1:Int)) none none=some (Kxh d'):=by rw [nd]; exact Kwm _ _
 have o2:=V11 (out:=[y0,y1]) (nd:=[Kxh a,Kxh b']) (us:=[Kxh [],Kxh [u0]]) (w:=2) (t:=⟨8,(g:Int),ty,[k0,k1,k2]⟩) (m:=[q]) rfl m2 r2 (by simp; omega) f2 (by rw [ht2]; exact V05 (.inr (by decide))) (V03 (show (8:Int) ≠ 10 by decide)) nd (by simp <;> omega) (by simp) (by simp) (by simp) (by simp)
 simp only [List.length_cons,List.length_nil,Nat.zero_add,List.drop_succ_cons,List.drop_zero,List.take_succ_cons,List.take_zero,List.nil_append,List.cons_append] at o2
 have hl0:=o0.trans (o1.trans (o2.trans (Kzt (Nat.le_refl _))))
 have hle0:=sLe hs.tab hu0 hg
 have hle1:=sLe hs.tab hv0 hg
 have hf:=V0s (ty:=ty) (ks:=[k0,k1,k2]) (ctx:=ctx) (z:=Kxh (List.replicate ctx.length 0)) (y0:=y0) (y1:=y1) (y2:=y2) (us':=Kxh []) (u:=[u0]) (v:=[v0]) hs hg (fun x hx=>by simp at hx; rw [hx]; exact hu0) (by simp) (fun x hx=>by simp at hx; rw [hx]; exact hv0) (by simp) ba bb' bd' (by omega) (by omega) (by omega) (by rw [r2.ty]; omega) (by rw [r1.ty]; omega)
 simp only [List.all_cons,List.all_nil,Bool.and_true] at hf
 rw [r1.ty,r2.ty] at hf
 have hsm:=Kwt x1.fty x2.fty (by omega)
 have hj:=Ky9 hs b' d' bb' bd' (by omega) (by omega)
 have lj:(Kxw s n b' d').length=ctx.length:=by unfold Kxw; rw [List.length_zipWith]; omega
 by_cases hqq:x1.fty=x2.fty
 rotate_left
 ·rw [if_neg hqq] at hf
  rw [show (x1.fty == x2.fty)=false from beq_eq_false_iff_ne.2 hqq] at hsm
  refine V0v.bad (f:=3) (p:=[]) ?_ (V02 (by omega) hl0 hf) (by decide) (by simp; omega)
  rw [Kfy.eq_def]
  simp [e0,f0,i0,Kfz.eq_def,hcg,hl2,hp0,hp1,hw1,e1,f1,hcut1,hcp1,hw2,e2,f2,hsm,Kf8]
 rw [if_pos hqq] at hf
 rw [show (x1.fty == x2.fty)=true from beq_iff_eq.2 hqq] at hsm
 by_cases hal:le s n u0 g=true∧le s n v0 g=true
 rotate_left
 ·rw [if_neg hal] at hf
  refine V0v.bad (f:=9) (p:=[]) ?_ (V02 (by omega) hl0 hf) (by decide) (by simp; omega)
  rw [Kfy.eq_def]
  simp [e0,f0,i0,Kfz.eq_def,hcg,hl2,hp0,hp1,hw1,e1,f1,hcut1,hcp1,hw2,e2,f2,hsm,i1,i2,hle0,hle1,hcut2,hj,Kf8]
  cases q1:le s n v0 g with
  | false=>simp
  | true =>
   cases q2:le s n u0 g with
   | false=>simp
   | true=>exact absurd ⟨q2,q1⟩ hal
 rw [if_pos hal] at hf
 have im:=V1d (q:=x1.fty) (ns:=Kxu s n (Kxv s n g a) (Kxw s n b' d')) (kids:=[y0,y1,y2]) (by omega) (V02 (by omega) hl0 hf)
 have lsc:(Kxv s n g a).length=ctx.length:=by unfold Kxv; rw [List.length_map]; exact la
 have hsc:=Ky1 hs hg ba
 have hz0:=Ky4 hs hsc
 rw [lsc] at hz0
 have hsum:=Ky6 hs g hg (List.replicate ctx.length 0) a (fun x hx=>by rw [List.eq_of_mem_replicate hx]; exact Kxp hs) ba (by simp; omega) (by simp [la])
 rw [hz0] at hsum
 have hs2:=Ky7 hs (Kxv s n g a) (Kxw s n b' d') hsc (Ky2 hs bb' bd') (by omega) (by omega)
 refine V0v.good (q:=x1.fty) (ns:=Kxu s n (Kxv s n g a) (Kxw s n b' d')) (kids:=[y0,y1,y2]) ?_ im (by omega) g1 (by unfold Kxu; rw [List.length_zipWith]; omega) (Ky0 hs hsc (Ky2 hs bb' bd')) rfl (kd3 (V0u.mk' (V12 (by decide) rfl) r0 f0 (fun _ h=>by cases h) rfl) (V0u.mk' ad1 r1 f1 hm1 rfl) (V0u.mk' ad2 r2 f2 hm2 rfl))
 rw [Kfy.eq_def]
 simp [e0,f0,i0,Kfz.eq_def,hcg,hl2,hp0,hp1,hw1,e1,f1,hcut1,hcp1,hw2,e2,f2,hsm,i1,i2,hle0,hle1,hal.1,hal.2,hcut2,hj,na,Kyj ctx.length (by omega),hsum,hs2]
theorem V23:∀ (m:Nat) (t:K01) (ctx:List (List Int)),tsz t ≤ m→tOk (gN s.fSize true) (yN s.fSize true) ctx.length t=true→(∀ q ∈ ctx,TyS s q)→ctx.length + 2 * tsz t ≤ 1000000→∃ x y,V0v s n ctx t x y
 | 0,t,ctx,hm,_,_,_=>by obtain ⟨op,N,ty,ks⟩:=t; rw [tsz] at hm; omega
 | m + 1,t,ctx,hm,h,hc,hb=>by
  have ih:V1c s n (tsz t):=fun k c hk hc hb=>V23 m k c (by have:=hk.sz; omega) hk.ok hc hb
  obtain ⟨op,N,ty,ks⟩:=t
  have hop:=(Kv1 (Kuy h).1).1
  simp only at hop
  rcases Kub hop with rfl | rfl | rfl | rfl | rfl | rfl | rfl | rfl | rfl | rfl | rfl | rfl | rfl
  ·exact V1f hs rfl h hc hb
  ·exact V1g hs rfl h hb
  ·exact V1n hs ih h hc hb
  ·exact V1o hs ih h hc hb
  ·exact V1m hs ih h hc hb
  ·exact V20 hs ih h hc hb
  ·exact V1i hs ih h hc hb
  ·exact V1j hs ih h hc hb
  ·exact V22 hs ih h hc hb
  ·exact V1l hs ih h hc hb
  ·exact V1z hs ih h hc hb
  ·exact V1k hs ih h hc hb
  ·exact V21 hs ih h hc hb
end
theorem V24 {l:List (List Int)} {v:List Int} (h:v ∈ l):v.length ≤ lms l:=by
 have:=Kwl h
 unfold lms; omega
theorem V25 {s:K00} {ctx:List (List Int)} {t:K01} (h:Kz5 s ctx t=true):Kxm s s.fSize.toNat∧ctx.length ≤ 8∧(∀ q ∈ ctx,TyS s q)∧tsz t ≤ 400∧tOk (gN s.fSize true) (yN s.fSize true) ctx.length t=true:=by
 unfold Kz5 Kyv Kx2 at h
 simp only [Bool.and_eq_true,decide_eq_true_eq,List.all_eq_true] at h
 exact ⟨Kxn h.1.1,h.1.2.1,fun q hq=>h.1.2.2 q hq,h.2.1.2,h.2.2⟩
theorem V26 {s:K00} {ctx:List (List Int)} {t:K01} (h:Kz5 s ctx t=true):∃ x y,V0v s s.fSize.toNat ctx t x y:=by
 obtain ⟨h1,h2,h3,h4,h5⟩:=V25 h
 exact V23 h1 (tsz t) t ctx (Nat.le_refl _) h5 h3 (by omega)
theorem V27 {s:K00} {ctx:List (List Int)} {t:K01} (hc:lms ctx ≤ 1048576) (ht:tms t ≤ 1099511627776) :
  (Kz5 s ctx t=false∧Kra (s,ctx,t)=some false∧Kpe (s,ctx,t)=some none) ∨
  (Kz5 s ctx t=true∧Kra (s,ctx,t)=some true∧∃ x y,V0v s s.fSize.toNat ctx t x y∧Kpe (s,ctx,t)=some (some y)):=by
 have hl:∀ ty ∈ ctx,ty.length ≤ 1099511627776:=fun ty h=>by have:=V24 h; omega
 have hc':ctx.length ≤ 1048576:=by unfold lms at hc; omega
 have h1:=Kz6 s ctx t hc' hl ht
 have h2:=Kz7 s ctx t hc' hl ht
 cases h:Kz5 s ctx t with
 | false=>rw [h] at h1 h2; exact .inl ⟨rfl,h1,by simpa using h2⟩
 | true =>
  rw [h] at h1 h2
  obtain ⟨x,y,r⟩:=V26 h
  refine .inr ⟨rfl,h1,x,y,r,?_⟩
  rw [if_pos rfl,r.im,bs] at h2
  exact h2
theorem V28 (s:K00) (ctx:List (List Int)) (t:K01) (hc:lms ctx ≤ 1048576) (ht:tms t ≤ 1099511627776) :
  (Krd (s,ctx,t)=some ([],[],false)∧Kph (s,ctx,t)=some ([],[],false)∧(Kz5 s ctx t=false∨∃ x y,V0v s s.fSize.toNat ctx t x y∧x.ffault ≠ 0)) ∨
  ∃ x y,V0v s s.fSize.toNat ctx t x y∧x.ffault=0∧Kz5 s ctx t=true∧Krd (s,ctx,t)=some (x.fty,x.fneeds,true)∧Kph (s,ctx,t)=some (x.fty,x.fneeds,true)∧Kpe (s,ctx,t)=some (some y):=by
 unfold Krd Kph
 simp only
 rcases V27 (s:=s) hc ht with ⟨h0,h1,h2⟩ | ⟨h0,h1,x,y,r,h2⟩
 ·rw [h1,h2]
  exact .inl ⟨rfl,rfl,.inl h0⟩
 ·rw [h1,h2,bs,bs,if_pos rfl,r.sp,bs]
  by_cases hf:x.ffault=0
  ·obtain ⟨g,_,ns,hn,hl,_⟩:=r.gd hf
   have:=Kz8 g
   obtain ⟨_,h8,_⟩:=V25 h0
   refine .inr ⟨x,y,r,hf,h0,by rw [if_neg (by simp [hf])],?_,rfl⟩
   simp only
   rw [if_neg (by rw [r.fa]; simp [hf]),r.ty,Kv3 x.fty (by omega),bs,r.ne,Kv3 x.fneeds (by rw [hn,Kxi]; omega),bs]
  ·refine .inl ⟨by rw [if_pos (bne_iff_ne.2 hf)],?_,.inr ⟨x,y,r,hf⟩⟩
   simp only
   rw [if_pos (by rw [r.fa]; exact bne_iff_ne.2 hf)]
def Gv {α:Type} (x:Option α) (Q:α→Prop):Prop:=∃ a,x=some a∧Q a
theorem Gv.of {α:Type} {a:α} {Q:α→Prop} (h:Q a):Gv (some a) Q:=⟨a,rfl,h⟩
theorem Gv.eq {α:Type} {x:Option α} {a:α} {Q:α→Prop} (e:x=some a) (h:Q a):Gv x Q:=⟨a,e,h⟩
theorem Gv.bind {α β:Type} {x:Option α} {f:α→Option β} {Q:α→Prop} {R:β→Prop} (h:Gv x Q) (hf:∀ a,Q a→Gv (f a) R):Gv (x >>= f) R:=by
 obtain ⟨a,rfl,hq⟩:=h
 exact hf a hq
theorem Gv.mono {α:Type} {x:Option α} {Q R:α→Prop} (h:Gv x Q) (hq:∀ a,Q a→R a):Gv x R:=let ⟨a,e,h⟩:=h; ⟨a,e,hq a h⟩
theorem Gv.ite {α:Type} {b:Bool} {x y:Option α} {Q:α→Prop} (h1:b=true→Gv x Q) (h2:b=false→Gv y Q):Gv (if b=true then x else y) Q:=by
 cases b
 ·exact h2 rfl
 ·exact h1 rfl
structure V29 (c:K02):Prop where
 lo:0 ≤ c.fi
 hi:c.fi ≤ c.fb.length
 ln:c.fb.length ≤ 1048576
 by_:∀ v ∈ c.fb,0 ≤ v∧v ≤ 255
theorem V2a (x:Int):0 ≤ Q2l .and .i64 x 255∧Q2l .and .i64 x 255 ≤ 255:=by
 have h:(BitVec.ofInt 64 x &&& BitVec.ofInt 64 255).toNat ≤ 255:=by
  rw [BitVec.toNat_and]
  exact Nat.le_trans Nat.and_le_right (by decide)
 have e:Q2l .and .i64 x 255=wr (((BitVec.ofInt 64 x &&& BitVec.ofInt 64 255).toNat:Nat):Int):=rfl
 rw [e,Krx (by omega) (by omega)]
 omega
theorem V2b {α:Type} {l:List α} {i:Int} (h0:0 ≤ i) (h:i < l.length):∃ v,idx l i=some v∧v ∈ l:=by
 have hi:i.toNat < l.length:=by omega
 refine ⟨l[i.toNat],?_,List.getElem_mem hi⟩
 unfold idx
 rw [if_pos h0,List.getElem?_eq_getElem hi]
theorem V2c (code:List Int) (hl:code.length ≤ 1048576):∀ (k i:Nat) (h:Int),i + k=code.length→Gv (K9s (code,h,(i:Int))) (fun _=>True):=by
 intro k
 induction k with
 | zero =>
  intro i h hi
  rw [K9s.eq_def]
  simp only
  rw [Ks1 (by omega),if_neg (by decide),bs,if_neg (by decide)]
  exact .of trivial
 | succ k ih =>
  intro i h hi
  rw [K9s.eq_def]
  simp only
  rw [Ks0 (by omega),if_pos rfl,bs]
  refine .ite (fun _=>?_) (fun _=>.of trivial)
  rw [Kry (by omega),bs,Krz (by omega)]
  exact ih (i + 1) _ (by omega)
theorem V2d (code:List Int) (hl:code.length ≤ 1048576) (hb:∀ v ∈ code,0 ≤ v∧v ≤ 255):Gv (K9v code) V29:=by
 unfold K9v
 refine Gv.bind (V2c code hl code.length 0 _ (by omega)) (fun h _=>.of ⟨Int.le_refl _,?_,hl,hb⟩)
 simp
theorem V2e {c:K02} (h:V29 c):Gv (Ka4 c) (fun r=>(0 ≤ r.1∧r.1 ≤ 255)∧V29 r.2):=by
 unfold Ka4
 by_cases hi:c.fi < c.fb.length
 ·obtain ⟨v,e,hv⟩:=V2b h.lo hi
  have h3:=h.ln
  have h4:=h.lo
  rw [decide_eq_true hi,if_pos rfl,e,bs,bs]
  refine .of ⟨V2a _,⟨?_,?_,h.ln,h.by_⟩⟩
  ·simp only
   rw [Krx (by omega) (by omega)]; omega
  ·simp only
   rw [Krx (by omega) (by omega)]; omega
 ·rw [decide_eq_false hi,if_neg (by decide),bs]
  exact .of ⟨V2a _,⟨h.lo,h.hi,h.ln,h.by_⟩⟩
def V2f (n:Int) (x:Int):Prop:=(0 < n→0 ≤ x∧x < n)∧(n ≤ 0→x=0)
theorem V2g {c:K02} (h:V29 c) (n:Int):Gv (Ka7 (c,n)) (fun r=>V2f n r.1∧V29 r.2):=by
 unfold Ka7
 simp only
 refine .ite (fun hb=>?_) (fun hb=>?_)
 ·have hb:=of_decide_eq_true hb
  exact .of ⟨⟨fun h=>absurd h (by omega),fun _=>rfl⟩,h⟩
 have hb:=of_decide_eq_false hb
 have tm:∀ x:Int,0 ≤ x→V2f n (Int.tmod x n):=fun x hx=>⟨fun hn=>⟨Int.tmod_nonneg n hx,Int.tmod_lt_of_pos x hn⟩,fun hn=>absurd hn (by omega)⟩
 have ck:chk (n ≠ 0)=some ():=by unfold chk; rw [if_pos (by omega)]
 refine .ite (fun _=>?_) (fun _=>?_)
 ·refine Gv.bind (V2e h) ?_
  rintro ⟨x,c1⟩ ⟨hx,h1⟩
  simp only at hx h1 ⊢
  rw [ck,bs]
  exact .of ⟨tm _ hx.1,h1⟩
 ·refine Gv.bind (V2e h) ?_
  rintro ⟨x,c1⟩ ⟨hx,h1⟩
  simp only at hx h1 ⊢
  refine Gv.bind (V2e h1) ?_
  rintro ⟨y,c2⟩ ⟨hy,h2⟩
  simp only at hy h2 ⊢
  refine Gv.bind (V2e h2) ?_
  rintro ⟨z,c3⟩ ⟨hz,h3⟩
  simp only at hz h3 ⊢
  refine Gv.bind (V2e h3) ?_
  rintro ⟨w,c4⟩ ⟨hw,h4⟩
  simp only at hw h4 ⊢
  rw [ck,bs]
  refine .of ⟨?_,h4⟩
  simp only
  have e1:wr (x * 16777216)=x * 16777216:=Krx (by omega) (by omega)
  have e2:wr (y * 65536)=y * 65536:=Krx (by omega) (by omega)
  have e3:wr (z * 256)=z * 256:=Krx (by omega) (by omega)
  rw [e1,e2,e3,Krx (x:=x * 16777216 + y * 65536) (by omega) (by omega),Krx (x:=x * 16777216 + y * 65536 + z * 256) (by omega) (by omega),Krx (x:=x * 16777216 + y * 65536 + z * 256 + w) (by omega) (by omega)]
  exact tm _ (by omega)
theorem V2h {c:K02} (h:V29 c) (n:Int):Gv (Kaa (c,n)) (fun r=>V29 r.2):=by
 unfold Kaa
 refine Gv.bind (V2g h n) ?_
 rintro ⟨x,c1⟩ ⟨_,h1⟩
 exact .of h1
theorem V2i {c:K02} (h:V29 c) (l:List Int) (hl:0 < l.length):Gv (Ki6 (c,l)) (fun r=>r.1 ∈ l∧V29 r.2):=by
 unfold Ki6
 refine Gv.bind (V2g h _) ?_
 rintro ⟨x,c1⟩ ⟨⟨hx,_⟩,h1⟩
 simp only at hx h1 ⊢
 have:=hx (by omega)
 obtain ⟨v,e,hv⟩:=V2b this.1 this.2
 rw [e,bs]
 exact .of ⟨hv,h1⟩
theorem V2j {c:K02} (h:V29 c):Gv (Ki9 c) (fun r=>(-9223372036854775808 ≤ r.1∧r.1 ≤ 9223372036854775807)∧V29 r.2):=by
 unfold Ki9
 refine Gv.bind (V2i h _ (by decide)) ?_
 rintro ⟨x,c1⟩ ⟨hx,h1⟩
 refine .of ⟨?_,h1⟩
 simp only [List.mem_cons,List.not_mem_nil,or_false] at hx
 simp only
 omega
def V2k (n a b:Nat):Int:=((min (a + b) (n + 1):Nat):Int)
def V2l (n a b:Nat):Int:=((min (a * b) (n + 1):Nat):Int)
def V2m (n:Nat) (bd:Bool) (a b:Nat):Bool:=(a == b) || (b == n + 1) || (bd && decide (a ≤ b))
def V2n (n:Nat) (bd:Bool):K00:=⟨((n + 2:Nat):Int),(List.range' 0 (n + 2)).flatMap (fun a=>(List.range' 0 (n + 2)).map (V2k n a)),(List.range' 0 (n + 2)).flatMap (fun a=>(List.range' 0 (n + 2)).map (V2l n a)),(List.range' 0 (n + 2)).flatMap (fun a=>(List.range' 0 (n + 2)).map (V2m n bd a))⟩
theorem V2o {a b:Nat} (h:a ≤ b):decide ((a:Int) ≤ (b:Int))=true:=decide_eq_true (by omega)
theorem V2p {a b:Nat} (h:b < a):decide ((a:Int) ≤ (b:Int))=false:=decide_eq_false (by omega)
theorem V2q (n a:Nat) (bd:Bool) (hn:n ≤ 14) (ha:a ≤ n + 1):∀ (k b:Nat) (P T:List Int) (B:List Bool),b + k=n + 2→P.length ≤ 1000000→T.length ≤ 1000000→B.length ≤ 1000000→P.length + k ≤ 1000000→T.length + k ≤ 1000000→B.length + k ≤ 1000000 →
  Kah ((n:Int),bd,(a:Int),P,T,B,(b:Int))=some (P ++ (List.range' b k).map (V2k n a),T ++ (List.range' b k).map (V2l n a),B ++ (List.range' b k).map (V2m n bd a)):=by
 intro k
 induction k with
 | zero =>
  intro b P T B hb _ _ _ _ _ _
  rw [Kah.eq_def]
  simp only
  rw [Krz (by omega),V2p (by omega),if_neg (by decide)]
  simp
 | succ k ih =>
  intro b P T B hb h1 h2 h3 h4 h5 h6
  have hab:a * b ≤ 16 * 16:=Nat.mul_le_mul (by omega) (by omega)
  have e2:wr ((a:Int) * (b:Int))=((a * b:Nat):Int):=by
   rw [← Int.natCast_mul,Krx (by omega) (by omega)]
  rw [Kah.eq_def]
  simp only
  rw [Krz (n:=n) (by omega),V2o (by omega),if_pos rfl,Kw8 (by omega) (by omega),Kw9,bs,e2,Kw9,bs,Kv0 (by simp; omega),bs,Kv0 (by simp; omega),bs]
  have e3:((if ((a:Int) == (b:Int))=true then Qdq (B.length + [true].length) 1 >>= fun _=>some (B ++ [true]) else if ((b:Int) == ((n + 1:Nat):Int))=true then Qdq (B.length + [true].length) 1 >>= fun _=>some (B ++ [true]) else if bd=true then Qdq (B.length + [decide ((a:Int) ≤ (b:Int))].length) 1 >>= fun _=>some (B ++ [decide ((a:Int) ≤ (b:Int))]) else Qdq (B.length + [false].length) 1 >>= fun _=>some (B ++ [false])):Option (List Bool))=some (B ++ [V2m n bd a b]):=by
   have f:∀ x:Bool,Qdq (B.length + [x].length) 1=some ():=fun x=>Kv0 (by simp; omega)
   rw [f,f,f,bs,bs,bs,Kse,Kse]
   unfold V2m
   by_cases q1:a=b
   ·rw [if_pos (by simp [q1])]; simp [q1]
   ·rw [if_neg (by simp [q1])]
    by_cases q2:b=n + 1
    ·rw [if_pos (by simp [q2])]; simp [q2]
    ·rw [if_neg (by simp [q2])]
     cases bd with
     | false=>simp [q1,q2]
     | true=>simp [q1,q2]
  rw [e3,bs,Krz (by omega),ih (b + 1) _ _ _ (by omega) (by simp; omega) (by simp; omega) (by simp; omega) (by simp; omega) (by simp; omega) (by simp; omega)]
  simp [List.range'_succ,V2k,V2l]
theorem V2r (n:Nat) (bd:Bool) (hn:n ≤ 14):∀ (k a:Nat) (P T:List Int) (B:List Bool),a + k=n + 2→P.length + k * 16 ≤ 10000→T.length + k * 16 ≤ 10000→B.length + k * 16 ≤ 10000 →
  Kal ((n:Int),bd,P,T,B,(a:Int))=some (P ++ (List.range' a k).flatMap (fun a=>(List.range' 0 (n + 2)).map (V2k n a)),T ++ (List.range' a k).flatMap (fun a=>(List.range' 0 (n + 2)).map (V2l n a)),B ++ (List.range' a k).flatMap (fun a=>(List.range' 0 (n + 2)).map (V2m n bd a))):=by
 intro k
 induction k with
 | zero =>
  intro a P T B hb _ _ _
  rw [Kal.eq_def]
  simp only
  rw [Krz (by omega),V2p (by omega),if_neg (by decide)]
  simp
 | succ k ih =>
  intro a P T B hb h1 h2 h3
  rw [Kal.eq_def]
  simp only
  rw [Krz (n:=n) (by omega),V2o (by omega),if_pos rfl,show (0:Int)=((0:Nat):Int) from rfl,V2q n a bd hn (by omega) (n + 2) 0 P T B (by omega) (by omega) (by omega) (by omega) (by omega) (by omega) (by omega),bs]
  simp only
  rw [Krz (by omega),ih (a + 1) _ _ _ (by omega) (by simp; omega) (by simp; omega) (by simp; omega)]
  simp [List.range'_succ,List.flatMap_cons]
theorem V2s (n:Nat) (bd:Bool) (h1:1 ≤ n) (h2:n ≤ 14):Kao ((n:Int),bd)=some (V2n n bd):=by
 unfold Kao
 simp only
 rw [sIn,bs,show inB (n:Int) 1 14=true from by unfold inB; rw [decide_eq_true (by omega),decide_eq_true (by omega)]; rfl,if_pos rfl,show (0:Int)=((0:Nat):Int) from rfl,V2r n bd h2 (n + 2) 0 [] [] [] (by omega) (by simp; omega) (by simp; omega) (by simp; omega),bs]
 simp only
 rw [show wr ((n:Int) + 2)=((n + 2:Nat):Int) from by rw [Krx (by omega) (by omega)]; omega]
 rfl
theorem V2t (n:Nat) (h1:1 ≤ n) (h2:n ≤ 14):Kau (n:Int)=some (V2n n false):=by unfold Kau; rw [V2s n false h1 h2]; rfl
theorem V2u (n:Nat) (h1:1 ≤ n) (h2:n ≤ 14):Kar (n:Int)=some (V2n n true):=by unfold Kar; rw [V2s n true h1 h2]; rfl
def V2v (n a:Nat):Nat:=(n + 1 - a) % (n + 1)
def V2w (n a b:Nat):Int:=(((n + 1 - max (V2v n a) (V2v n b)) % (n + 1):Nat):Int)
def V2x (n a b:Nat):Int:=(((n + 1 - min (V2v n a) (V2v n b)) % (n + 1):Nat):Int)
def V2y (n a b:Nat):Bool:=decide (V2v n a ≤ V2v n b)
def V2z (n:Nat):K00:=⟨((n + 1:Nat):Int),(List.range' 0 (n + 1)).flatMap (fun a=>(List.range' 0 (n + 1)).map (V2w n a)),(List.range' 0 (n + 1)).flatMap (fun a=>(List.range' 0 (n + 1)).map (V2x n a)),(List.range' 0 (n + 1)).flatMap (fun a=>(List.range' 0 (n + 1)).map (V2y n a))⟩
theorem V30 (a b:Nat):Kax ((a:Int),(b:Int))=some ((max a b:Nat):Int):=by
 unfold Kax
 simp only
 by_cases h:b < a
 ·rw [decide_eq_true (by omega),if_pos rfl,Nat.max_eq_left (by omega)]
 ·rw [decide_eq_false (by omega),if_neg (by decide),Nat.max_eq_right (by omega)]
theorem V31 (a b:Nat):Int.tmod (a:Int) (b:Int)=((a % b:Nat):Int):=(Int.ofNat_tmod a b).symm
theorem V32 (n a:Nat) (hn:n ≤ 1000) (ha:a ≤ n + 1):Int.tmod (wr (((n + 1:Nat):Int) - (a:Int))) ((n + 1:Nat):Int)=(((n + 1 - a) % (n + 1):Nat):Int):=by
 rw [Krx (by omega) (by omega),show ((n + 1:Nat):Int) - (a:Int)=((n + 1 - a:Nat):Int) from by omega,V31]
theorem V33 (n a:Nat):V2v n a ≤ n:=by
 have:=Nat.mod_lt (n + 1 - a) (show 0 < n + 1 by omega)
 unfold V2v
 omega
theorem V34 (n a:Nat) (hn:n ≤ 15) (ha:a ≤ n):∀ (k b:Nat) (P T:List Int) (B:List Bool),b + k=n + 1→P.length + k ≤ 1000000→T.length + k ≤ 1000000→B.length + k ≤ 1000000 →
  Kb1 ((n:Int),(a:Int),P,T,B,(b:Int))=some (P ++ (List.range' b k).map (V2w n a),T ++ (List.range' b k).map (V2x n a),B ++ (List.range' b k).map (V2y n a)):=by
 intro k
 induction k with
 | zero =>
  intro b P T B hb _ _ _
  rw [Kb1.eq_def]
  simp only
  rw [V2p (by omega),if_neg (by decide)]
  simp
 | succ k ih =>
  intro b P T B hb h4 h5 h6
  have ck:chk (((n + 1:Nat):Int) ≠ 0)=some ():=by unfold chk; rw [if_pos (by omega)]
  have m1:=V33 n a
  have m2:=V33 n b
  have x1:Int.tmod (wr (((n + 1:Nat):Int) - (a:Int))) ((n + 1:Nat):Int)=((V2v n a:Nat):Int):=V32 n a (by omega) (by omega)
  have x2:Int.tmod (wr (((n + 1:Nat):Int) - (b:Int))) ((n + 1:Nat):Int)=((V2v n b:Nat):Int):=V32 n b (by omega) (by omega)
  rw [Kb1.eq_def]
  simp only
  rw [V2o (by omega),if_pos rfl,Krz (n:=n) (by omega),ck,bs,bs,x1,x2,V30,bs,bs,Kw9,bs,bs,V32 n _ (by omega) (by omega),V32 n _ (by omega) (by omega),Kv0 (by simp; omega),bs,Kv0 (by simp; omega),bs,Kv0 (by simp; omega),bs,Krz (by omega),ih (b + 1) _ _ _ (by omega) (by simp; omega) (by simp; omega) (by simp; omega)]
  simp [List.range'_succ,V2w,V2x,V2y]
theorem V35 (n:Nat) (hn:n ≤ 15):∀ (k a:Nat) (P T:List Int) (B:List Bool),a + k=n + 1→P.length + k * 16 ≤ 10000→T.length + k * 16 ≤ 10000→B.length + k * 16 ≤ 10000 →
  Kb5 ((n:Int),P,T,B,(a:Int))=some (P ++ (List.range' a k).flatMap (fun a=>(List.range' 0 (n + 1)).map (V2w n a)),T ++ (List.range' a k).flatMap (fun a=>(List.range' 0 (n + 1)).map (V2x n a)),B ++ (List.range' a k).flatMap (fun a=>(List.range' 0 (n + 1)).map (V2y n a))):=by
 intro k
 induction k with
 | zero =>
  intro a P T B hb _ _ _
  rw [Kb5.eq_def]
  simp only
  rw [V2p (by omega),if_neg (by decide)]
  simp
 | succ k ih =>
  intro a P T B hb h1 h2 h3
  rw [Kb5.eq_def]
  simp only
  rw [V2o (by omega),if_pos rfl,show (0:Int)=((0:Nat):Int) from rfl,V34 n a hn (by omega) (n + 1) 0 P T B (by omega) (by omega) (by omega) (by omega),bs]
  simp only
  rw [Krz (by omega),ih (a + 1) _ _ _ (by omega) (by simp; omega) (by simp; omega) (by simp; omega)]
  simp [List.range'_succ,List.flatMap_cons]
theorem V36 (n:Nat) (h1:1 ≤ n) (h2:n ≤ 15):Kb8 (n:Int)=some (V2z n):=by
 unfold Kb8
 rw [sIn,bs,show inB (n:Int) 1 15=true from by unfold inB; rw [decide_eq_true (by omega),decide_eq_true (by omega)]; rfl,if_pos rfl,show (0:Int)=((0:Nat):Int) from rfl,V35 n h2 (n + 1) 0 [] [] [] (by omega) (by simp; omega) (by simp; omega) (by simp; omega),bs]
 simp only
 rw [Krz (by omega)]
 rfl
def V37 (n g:Nat):Nat:=if g=0 then 0 else if g=1 then 1 else if g ≤ n + 1 then (g - 1) / n else g / n
def V38 (n g:Nat):Nat:=if g < 2 then g else if g ≤ n + 1 then (g - 1) % n else g % n
def V39 (n x y:Nat):Nat:=if x * n + y=0 then 0 else if x * n + y=n + 1 then 1 else if x * n + y < n + 1 then x * n + y + 1 else x * n + y
theorem V3a (a b:Nat):Int.tdiv (a:Int) (b:Int)=((a / b:Nat):Int):=(Int.ofNat_tdiv a b).symm
theorem V3b (n g:Nat) (hn:1 ≤ n) (hn2:n ≤ 100) (hg:g ≤ 1000):Kcz ((n:Int),(g:Int))=some ((V37 n g:Nat):Int):=by
 have ck:chk ((n:Int) ≠ 0)=some ():=by unfold chk; rw [if_pos (by omega)]
 have hd:∀ x,x ≤ 1000→x / n ≤ 1000:=fun x hx=>Nat.le_trans (Nat.div_le_self _ _) hx
 unfold Kcz V37
 simp only
 by_cases h0:g=0
 ·rw [if_pos (by simp [h0]),if_pos h0]; rfl
 rw [if_neg (by simpa using h0),if_neg h0]
 by_cases h1:g=1
 ·rw [if_pos (by simp [h1]),if_pos h1]; rfl
 rw [if_neg (by simp; omega),if_neg h1,Krz (by omega)]
 by_cases h2:g ≤ n + 1
 ·rw [V2o h2,if_pos rfl,if_pos h2,ck,bs,Krx (x:=(g:Int) - 1) (by omega) (by omega),show (g:Int) - 1=((g - 1:Nat):Int) from by omega,V3a]
  have:=hd (g - 1) (by omega)
  generalize (g - 1) / n=q at *
  rw [Krx (by omega) (by omega)]
 ·rw [V2p (by omega),if_neg (by decide),if_neg h2,ck,bs,V3a]
  have:=hd g hg
  generalize g / n=q at *
  rw [Krx (by omega) (by omega)]
theorem V3c (n g:Nat) (hn:1 ≤ n) (hn2:n ≤ 100) (hg:g ≤ 1000):Kd2 ((n:Int),(g:Int))=some ((V38 n g:Nat):Int):=by
 have ck:chk ((n:Int) ≠ 0)=some ():=by unfold chk; rw [if_pos (by omega)]
 unfold Kd2 V38
 simp only
 by_cases h0:g < 2
 ·rw [decide_eq_true (by omega),if_pos rfl,if_pos h0]
 rw [decide_eq_false (by omega),if_neg (by decide),if_neg h0,Krz (by omega)]
 by_cases h2:g ≤ n + 1
 ·rw [V2o h2,if_pos rfl,if_pos h2,ck,bs,Krx (x:=(g:Int) - 1) (by omega) (by omega),show (g:Int) - 1=((g - 1:Nat):Int) from by omega,V31]
 ·rw [V2p (by omega),if_neg (by decide),if_neg h2,ck,bs,V31]
theorem V3d (n x y:Nat) (hn:n ≤ 100) (hx:x ≤ 100) (hy:y ≤ 100):Kd5 ((n:Int),(x:Int),(y:Int))=some ((V39 n x y:Nat):Int):=by
 have hxn:x * n ≤ 100 * 100:=Nat.mul_le_mul hx hn
 have e:wr (wr ((x:Int) * (n:Int)) + (y:Int))=((x * n + y:Nat):Int):=by
  rw [← Int.natCast_mul,Krx (x:=((x * n:Nat):Int)) (by omega) (by omega),Krx (by omega) (by omega)]; omega
 unfold Kd5 V39
 simp only
 rw [e,Krz (n:=n) (by omega)]
 by_cases h0:x * n + y=0
 ·rw [if_pos (by rw [h0]; rfl),if_pos h0]; rfl
 rw [if_neg (by simp; omega),if_neg h0]
 by_cases h1:x * n + y=n + 1
 ·rw [if_pos (by rw [h1]; simp),if_pos h1]; rfl
 rw [if_neg (by simp; omega),if_neg h1]
 by_cases h2:x * n + y < n + 1
 ·rw [Ks0 h2,if_pos rfl,if_pos h2,Krz (by omega)]
 ·rw [Ks1 (by omega),if_neg (by decide),if_neg h2]
theorem V3e {m n g:Nat} (hm:2 ≤ m) (hn:2 ≤ n) (h:g < m * n):V37 n g < m:=by
 unfold V37
 split
 ·omega
 split
 ·omega
 split
 ·refine Nat.div_lt_of_lt_mul ?_
  rw [Nat.mul_comm]; omega
 ·exact Nat.div_lt_of_lt_mul (by rw [Nat.mul_comm]; exact h)
theorem V3f {n g:Nat} (hn:2 ≤ n):V38 n g < n:=by
 unfold V38
 split
 ·omega
 split
 ·exact Nat.mod_lt _ (by omega)
 ·exact Nat.mod_lt _ (by omega)
def V3g (a b:K00) (m n g h:Nat):Int:=((V39 n (pl a m (V37 n g) (V37 n h)) (pl b n (V38 n g) (V38 n h)):Nat):Int)
def V3h (a b:K00) (m n g h:Nat):Int:=((V39 n (ti a m (V37 n g) (V37 n h)) (ti b n (V38 n g) (V38 n h)):Nat):Int)
def V3i (a b:K00) (m n g h:Nat):Bool:=le a m (V37 n g) (V37 n h) && le b n (V38 n g) (V38 n h)
def V3j (a b:K00) (m n:Nat):K00:=⟨((m * n:Nat):Int),(List.range' 0 (m * n)).flatMap (fun g=>(List.range' 0 (m * n)).map (V3g a b m n g)),(List.range' 0 (m * n)).flatMap (fun g=>(List.range' 0 (m * n)).map (V3h a b m n g)),(List.range' 0 (m * n)).flatMap (fun g=>(List.range' 0 (m * n)).map (V3i a b m n g))⟩
theorem V3k {m n:Nat} (hm:2 ≤ m) (hn:2 ≤ n) (hmn:m * n ≤ 16):m ≤ 16∧n ≤ 16:=⟨Nat.le_trans (Nat.le_mul_of_pos_right m (by omega)) hmn,Nat.le_trans (Nat.le_mul_of_pos_left n (by omega)) hmn⟩
section
variable {a b:K00} {m n:Nat} (ta:Tab a m) (tb:Tab b n) (hm:2 ≤ m) (hn:2 ≤ n) (hmn:m * n ≤ 16)
include ta tb hm hn hmn
theorem V3l {g:Nat} (hg:g < m * n):∀ (k h:Nat) (P T:List Int) (B:List Bool),h + k=m * n→P.length + k ≤ 1000000→T.length + k ≤ 1000000→B.length + k ≤ 1000000 →
  Kd9 (a,b,(g:Int),P,T,B,(h:Int))=some (P ++ (List.range' h k).map (V3g a b m n g),T ++ (List.range' h k).map (V3h a b m n g),B ++ (List.range' h k).map (V3i a b m n g)):=by
 obtain ⟨hm16,hn16⟩:=V3k hm hn hmn
 have hN:wr (a.fSize * b.fSize)=((m * n:Nat):Int):=by
  rw [ta.size,tb.size,← Int.natCast_mul,Krx (by omega) (by omega)]
 intro k
 induction k with
 | zero =>
  intro h P T B hb _ _ _
  rw [Kd9.eq_def]
  simp only
  rw [hN,Ks1 (by omega),if_neg (by decide)]
  simp
 | succ k ih =>
  intro h P T B hb h4 h5 h6
  have f1:=V3e hm hn hg
  have f2:=V3e hm hn (show h < m * n by omega)
  have s1:V38 n g < n:=V3f hn
  have s2:V38 n h < n:=V3f hn
  have p1:=Ks5 ta f1 f2
  have p2:=Ks5 tb s1 s2
  have t1:=Ks6 ta f1 f2
  have t2:=Ks6 tb s1 s2
  rw [Kd9.eq_def]
  simp only
  rw [hN,Ks0 (by omega),if_pos rfl,tb.size,V3b n g (by omega) (by omega) (by omega),bs,V3c n g (by omega) (by omega) (by omega),bs,V3b n h (by omega) (by omega) (by omega),bs,V3c n h (by omega) (by omega) (by omega),bs,
   Ksa ta f1 f2,bs,Ksa tb s1 s2,bs,V3d n _ _ (by omega) (by omega) (by omega),bs,Kv0 (by simp; omega),bs,Ksb ta f1 f2,bs,Ksb tb s1 s2,bs,V3d n _ _ (by omega) (by omega) (by omega),bs,Kv0 (by simp; omega),bs,sLe ta f1 f2,bs,sLe tb s1 s2,bs]
  have f:∀ x:Bool,Qdq (B.length + [x].length) 1=some ():=fun x=>Kv0 (by simp; omega)
  have e3:((if le a m (V37 n g) (V37 n h)=true then Qdq (B.length + [le b n (V38 n g) (V38 n h)].length) 1 >>= fun _=>some (B ++ [le b n (V38 n g) (V38 n h)]) else Qdq (B.length + [false].length) 1 >>= fun _=>some (B ++ [false])):Option (List Bool))=some (B ++ [V3i a b m n g h]):=by
   rw [f,f,bs,bs]
   unfold V3i
   cases le a m (V37 n g) (V37 n h) <;> rfl
  rw [e3,bs,Krz (by omega),ih (h + 1) _ _ _ (by omega) (by simp; omega) (by simp; omega) (by simp; omega)]
  simp [List.range'_succ,V3g,V3h]
theorem V3m:∀ (k g:Nat) (P T:List Int) (B:List Bool),g + k=m * n→P.length + k * 16 ≤ 10000→T.length + k * 16 ≤ 10000→B.length + k * 16 ≤ 10000 →
  Kdd (a,b,P,T,B,(g:Int))=some (P ++ (List.range' g k).flatMap (fun g=>(List.range' 0 (m * n)).map (V3g a b m n g)),T ++ (List.range' g k).flatMap (fun g=>(List.range' 0 (m * n)).map (V3h a b m n g)),B ++ (List.range' g k).flatMap (fun g=>(List.range' 0 (m * n)).map (V3i a b m n g))):=by
 have hN:wr (a.fSize * b.fSize)=((m * n:Nat):Int):=by
  rw [ta.size,tb.size,← Int.natCast_mul,Krx (by omega) (by omega)]
 intro k
 induction k with
 | zero =>
  intro g P T B hb _ _ _
  rw [Kdd.eq_def]
  simp only
  rw [hN,Ks1 (by omega),if_neg (by decide)]
  simp
 | succ k ih =>
  intro g P T B hb h1 h2 h3
  rw [Kdd.eq_def]
  simp only
  rw [hN,Ks0 (by omega),if_pos rfl,show (0:Int)=((0:Nat):Int) from rfl,V3l ta tb hm hn hmn (by omega) (m * n) 0 P T B (by omega) (by omega) (by omega) (by omega),bs]
  simp only
  rw [Krz (by omega),ih (g + 1) _ _ _ (by omega) (by simp; omega) (by simp; omega) (by simp; omega)]
  simp [List.range'_succ,List.flatMap_cons]
theorem V3n (sa:Kve a=true) (sb:Kve b=true):Kdg (a,b)=some (V3j a b m n,true):=by
 have hN:wr (a.fSize * b.fSize)=((m * n:Nat):Int):=by
  rw [ta.size,tb.size,← Int.natCast_mul,Krx (by omega) (by omega)]
 unfold Kdg Kcw
 simp only
 rw [Kvg,Kvg,bs,sa,if_pos rfl,bs,sb,if_pos rfl,bs,hN,decide_eq_true (by omega),bs,if_pos rfl,show (0:Int)=((0:Nat):Int) from rfl,V3m ta tb hm hn hmn (m * n) 0 [] [] [] (by omega) (by simp; omega) (by simp; omega) (by simp; omega),bs]
 rfl
end
def V3o:K00:=⟨3,[0,1,2,1,2,2,2,2,2],[0,0,0,0,1,2,0,2,2],[true,true,true,false,true,true,false,false,true]⟩
def V3p:K00:=⟨4,[0,1,2,3,1,2,3,3,2,3,3,3,3,3,3,3],[0,0,0,0,0,1,2,3,0,2,3,3,0,3,3,3],[true,true,true,true,false,true,true,true,false,false,true,true,false,false,false,true]⟩
def V3q:K00:=⟨5,[0,1,2,3,4,1,2,3,4,4,2,3,4,4,4,3,4,4,4,4,4,4,4,4,4],[0,0,0,0,0,0,1,2,3,4,0,2,4,4,4,0,3,4,4,4,0,4,4,4,4],[true,true,true,true,true,false,true,true,true,true,false,false,true,true,true,false,false,false,true,true,false,false,false,false,true]⟩
def V3r:K00:=⟨3,[0,1,2,1,2,2,2,2,2],[0,0,0,0,1,2,0,2,2],[true,false,true,false,true,true,false,false,true]⟩
def V3s:K00:=⟨4,[0,1,2,3,1,2,3,3,2,3,3,3,3,3,3,3],[0,0,0,0,0,1,2,3,0,2,3,3,0,3,3,3],[true,false,false,true,false,true,false,true,false,false,true,true,false,false,false,true]⟩
def V3t:K00:=⟨5,[0,1,2,3,4,1,2,3,4,4,2,3,4,4,4,3,4,4,4,4,4,4,4,4,4],[0,0,0,0,0,0,1,2,3,4,0,2,4,4,4,0,3,4,4,4,0,4,4,4,4],[true,false,false,false,true,false,true,false,false,true,false,false,true,false,true,false,false,false,true,true,false,false,false,false,true]⟩
def V3u:K00:=⟨2,[0,1,1,1],[0,0,0,1],[true,true,false,true]⟩
def V3v:K00:=⟨3,[0,1,2,1,1,1,2,1,2],[0,0,0,0,1,2,0,2,2],[true,true,true,false,true,false,false,true,true]⟩
def V3w:K00:=⟨4,[0,1,2,3,1,1,1,1,2,1,2,2,3,1,2,3],[0,0,0,0,0,1,2,3,0,2,2,3,0,3,3,3],[true,true,true,true,false,true,false,false,false,true,true,false,false,true,true,true]⟩
def V3x:K00:=⟨6,[0,1,2,3,4,5,1,5,1,5,5,5,2,1,2,1,5,5,3,5,1,4,4,5,4,5,5,4,4,5,5,5,5,5,5,5],[0,0,0,0,0,0,0,1,2,3,4,5,0,2,2,0,0,2,0,3,0,3,4,4,0,4,0,4,4,4,0,5,2,4,4,5],[true,false,true,false,true,true,false,true,false,false,false,true,false,false,true,false,false,true,false,true,false,true,true,true,false,false,false,false,true,true,false,false,false,false,false,true]⟩
def V3y:K00:=⟨9,[0,1,2,3,4,5,6,7,8,1,7,1,1,7,7,7,7,7,2,1,2,2,1,1,7,7,7,3,1,2,3,5,5,8,7,8,4,7,1,5,6,8,6,7,8,5,7,1,5,8,8,8,7,8,6,7,7,8,6,8,6,7,8,7,7,7,7,7,7,7,7,7,8,7,7,8,8,8,8,7,8],[0,0,0,0,0,0,0,0,0,0,1,2,3,4,5,6,7,8,0,2,2,3,0,3,0,2,3,0,3,3,3,0,3,0,3,3,0,4,0,0,4,4,6,6,6,0,5,3,3,4,5,6,8,8,0,6,0,0,6,6,6,6,6,0,7,2,3,6,8,6,7,8,0,8,3,3,6,8,6,8,8],[true,false,true,true,false,false,true,true,true,false,true,false,false,false,false,false,true,false,false,false,true,false,false,false,false,true,false,false,false,true,true,false,false,false,true,true,false,true,false,false,true,true,true,true,true,false,true,false,false,false,true,false,true,true,false,false,false,false,false,false,true,true,true,false,false,false,false,false,false,false,true,false,false,false,false,false,false,false,false,true,true]⟩
theorem V3z:V2n 1 true=V3o:=by kernel_rfl
theorem V40:Kve V3o=true:=by kernel_rfl
theorem V41:V2n 2 true=V3p:=by kernel_rfl
theorem V42:Kve V3p=true:=by kernel_rfl
theorem V43:V2n 3 true=V3q:=by kernel_rfl
theorem V44:Kve V3q=true:=by kernel_rfl
theorem V45:V2n 1 false=V3r:=by kernel_rfl
theorem V46:Kve V3r=true:=by kernel_rfl
theorem V47:V2n 2 false=V3s:=by kernel_rfl
theorem V48:Kve V3s=true:=by kernel_rfl
theorem V49:V2n 3 false=V3t:=by kernel_rfl
theorem V4a:Kve V3t=true:=by kernel_rfl
theorem V4b:V2z 1=V3u:=by kernel_rfl
theorem V4c:Kve V3u=true:=by kernel_rfl
theorem V4d:V2z 2=V3v:=by kernel_rfl
theorem V4e:Kve V3v=true:=by kernel_rfl
theorem V4f:V2z 3=V3w:=by kernel_rfl
theorem V4g:Kve V3w=true:=by kernel_rfl
theorem V4h:V3j V3r V3u 3 2=V3x:=by kernel_rfl
theorem V4i:Kve V3x=true:=by kernel_rfl
theorem V4j:V3j V3r V3v 3 3=V3y:=by kernel_rfl
theorem V4k:Kve V3y=true:=by kernel_rfl
def V4l:List K00:=[V3o,V3p,V3q,V3r,V3s,V3t,V3u,V3v,V3w,V3x,V3y]
theorem V4m {s:K00} (h:s ∈ V4l):Kve s=true∧(2 ≤ s.fSize∧s.fSize ≤ 9)∧sms s ≤ 300:=by
 simp only [V4l,List.mem_cons,List.not_mem_nil,or_false] at h
 rcases h with rfl | rfl | rfl | rfl | rfl | rfl | rfl | rfl | rfl | rfl | rfl
 ·exact ⟨V40,by decide,by decide⟩
 ·exact ⟨V42,by decide,by decide⟩
 ·exact ⟨V44,by decide,by decide⟩
 ·exact ⟨V46,by decide,by decide⟩
 ·exact ⟨V48,by decide,by decide⟩
 ·exact ⟨V4a,by decide,by decide⟩
 ·exact ⟨V4c,by decide,by decide⟩
 ·exact ⟨V4e,by decide,by decide⟩
 ·exact ⟨V4g,by decide,by decide⟩
 ·exact ⟨V4i,by decide,by decide⟩
 ·exact ⟨V4k,by decide,by decide⟩
theorem V4n (x:Int) (h:V2f 3 x):x=0∨x=1∨x=2:=by
 have:=h.1 (by decide)
 omega
theorem V4o {x:Int} (h:V2f 3 x):Gv (Kar (wr (1 + x))) (fun s=>s ∈ V4l):=by
 rcases V4n x h with rfl | rfl | rfl
 ·exact .eq (V2u 1 (by decide) (by decide)) (by rw [V3z]; simp [V4l])
 ·exact .eq (V2u 2 (by decide) (by decide)) (by rw [V41]; simp [V4l])
 ·exact .eq (V2u 3 (by decide) (by decide)) (by rw [V43]; simp [V4l])
theorem V4p {x:Int} (h:V2f 3 x):Gv (Kau (wr (1 + x))) (fun s=>s ∈ V4l):=by
 rcases V4n x h with rfl | rfl | rfl
 ·exact .eq (V2t 1 (by decide) (by decide)) (by rw [V45]; simp [V4l])
 ·exact .eq (V2t 2 (by decide) (by decide)) (by rw [V47]; simp [V4l])
 ·exact .eq (V2t 3 (by decide) (by decide)) (by rw [V49]; simp [V4l])
theorem V4q {x:Int} (h:V2f 3 x):Gv (Kb8 (wr (1 + x))) (fun s=>s ∈ V4l):=by
 rcases V4n x h with rfl | rfl | rfl
 ·exact .eq (V36 1 (by decide) (by decide)) (by rw [V4b]; simp [V4l])
 ·exact .eq (V36 2 (by decide) (by decide)) (by rw [V4d]; simp [V4l])
 ·exact .eq (V36 3 (by decide) (by decide)) (by rw [V4f]; simp [V4l])
theorem V4r {c:K02} (h:V29 c):Gv (Kdj c) (fun r=>r.1 ∈ V4l∧V29 r.2):=by
 unfold Kdj
 refine Gv.bind (V2g h 3) ?_
 rintro ⟨x,c1⟩ ⟨hx,h1⟩
 simp only at hx h1 ⊢
 refine Gv.bind (V4o hx) (fun s0 hs0=>?_)
 refine Gv.bind (V2g h1 8) ?_
 rintro ⟨y,c2⟩ ⟨hy,h2⟩
 simp only at hy h2 ⊢
 have fin:∀ (R:Int × List Int × List Int × List Bool × List Int × Int × Int→Prop),True:=fun _=>trivial
 refine Gv.bind (Q:=fun _=>True) (.ite (fun _=>.of trivial) (fun _=>Gv.bind (Q:=fun _=>True) (.ite (fun _=>.of trivial) (fun _=>.of trivial)) (fun _ _=>.of trivial))) (fun j5 _=>?_)
 refine Gv.bind (Q:=fun r:Int × List Int × List Int × List Bool × List Int × Int × Int=>(⟨r.1,r.2.1,r.2.2.1,r.2.2.2.1⟩:K00) ∈ V4l∧V29 ⟨r.2.2.2.2.1,r.2.2.2.2.2.1,r.2.2.2.2.2.2⟩) (.ite (fun _=>?_) (fun _=>?_)) ?_
 ·exact Gv.bind (V4p hx) (fun s hs=>.of ⟨hs,h2⟩)
 ·refine Gv.bind (Q:=fun _=>True) (.ite (fun _=>.of trivial) (fun _=>.of trivial)) (fun j9 _=>?_)
  refine Gv.bind (Q:=fun r:Int × List Int × List Int × List Bool × List Int × Int × Int=>(⟨r.1,r.2.1,r.2.2.1,r.2.2.2.1⟩:K00) ∈ V4l∧V29 ⟨r.2.2.2.2.1,r.2.2.2.2.2.1,r.2.2.2.2.2.2⟩) (.ite (fun _=>?_) (fun _=>?_)) (by rintro ⟨a,b,d,e,f,g,i⟩ q; exact .of q)
  ·exact Gv.bind (V4q hx) (fun s hs=>.of ⟨hs,h2⟩)
  ·refine Gv.bind (Q:=fun r:Int × List Int × List Int × List Bool × List Int × Int × Int=>(⟨r.1,r.2.1,r.2.2.1,r.2.2.2.1⟩:K00) ∈ V4l∧V29 ⟨r.2.2.2.2.1,r.2.2.2.2.2.1,r.2.2.2.2.2.2⟩) (.ite (fun _=>?_) (fun _=>.of ⟨hs0,h2⟩)) (by rintro ⟨a,b,d,e,f,g,i⟩ q; exact .of q)
   rw [show (1:Int)=((1:Nat):Int) from rfl,V2t 1 (by decide) (by decide),V45,bs]
   refine Gv.bind (V2g h2 2) ?_
   rintro ⟨z,c3⟩ ⟨hz,h3⟩
   simp only at hz h3 ⊢
   have hz:=hz.1 (by decide)
   have t3:Tab V3r 3:=Kvf V46
   rcases (show z=0∨z=1 by omega) with rfl | rfl
   ·have e:wr (((1:Nat):Int) + 0)=((1:Nat):Int):=rfl
    rw [e,V36 1 (by decide) (by decide),V4b,bs,V3n (m:=3) (n:=2) t3 (Kvf V4c) (by decide) (by decide) (by decide) V46 V4c,V4h,bs]
    exact .of ⟨by simp [V4l],h3⟩
   ·have e:wr (((1:Nat):Int) + 1)=((2:Nat):Int):=rfl
    rw [e,V36 2 (by decide) (by decide),V4d,bs,V3n (m:=3) (n:=3) t3 (Kvf V4e) (by decide) (by decide) (by decide) V46 V4e,V4j,bs]
    exact .of ⟨by simp [V4l],h3⟩
 ·rintro ⟨a,b,d,e,f,g,i⟩ q
  exact .of q
theorem V4s (c:Int) (a:List Int) (h:a.length ≤ 1000000):Kdq (c,[a])=some (c :: a):=by
 rw [Kym c [a] (by simp) (by simp; omega)]; simp
theorem V4t (c:Int) (a b:List Int) (h:a.length + b.length ≤ 1000000):Kdq (c,[a,b])=some (c :: (a ++ b)):=by
 rw [Kym c [a,b] (by simp) (by simp; omega)]; simp
theorem V4u (d:Nat) (hd:d ≤ 10):2 ^ d ≤ 1024:=Nat.le_trans (Nat.pow_le_pow_right (by decide) hd) (by decide)
end Go.Am
