/- Plain laws of the printed functions. -/
import Derived.Test.YtckgdfakjjdodaaGreatPVAL1
set_option linter.unusedSimpArgs false
set_option linter.unusedVariables false
namespace Go.Am
theorem Kz9 (g:Nat) (h:g ≤ 15):Kpo (3 + (g:Int))=(3,(g:Int)):=by
 rcases Kpq (3 + (g:Int)) with h | h | h | h | h | h | h | h <;> first | omega | (obtain ⟨_,e⟩:=h; rw [e]; congr 1; omega)
theorem Kza (g:Nat) (h:g ≤ 15):Kpo (19 + (g:Int))=(4,(g:Int)):=by
 rcases Kpq (19 + (g:Int)) with h | h | h | h | h | h | h | h <;> first | omega | (obtain ⟨_,e⟩:=h; rw [e]; congr 1; omega)
theorem Kzb (g:Nat) (h:g ≤ 15):Kph (3 + (g:Int))=true:=by unfold Kph inB; simp; omega
theorem Kzc (g:Nat) (h:g ≤ 15):Kph (19 + (g:Int))=false:=by unfold Kph inB; simp; omega
theorem Kzd (g:Nat) (h:g ≤ 15):Kpi (3 + (g:Int))=false:=by unfold Kpi inB; simp; omega
theorem Kze (g:Nat) (h:g ≤ 15):Kpi (19 + (g:Int))=true:=by unfold Kpi inB; simp; omega
theorem Kzf (g:Nat) (h:g ≤ 15):Kd5 (3 + (g:Int))=some (g:Int):=by
 rw [Kq6 (by rcases Kpn (3 + (g:Int)) with h | h | h | h <;> omega)]
 unfold Kq4
 rw [if_neg (by omega),if_neg (by omega)]
 congr 1; omega
theorem Kzg (g:Nat) (h:g ≤ 15):Kd5 (19 + (g:Int))=some (g:Int):=by
 rw [Kq6 (by rcases Kpn (19 + (g:Int)) with h | h | h | h <;> omega)]
 unfold Kq4
 rw [if_neg (by omega),if_pos (by omega)]
 congr 1; omega
section
variable {s:K00} {n:Nat} (hs:Kv6 s n) {ctx:List (List Int)} {N:Int} {ty:List Int} {ks:List K02}
include hs
structure Kzh (s:K00) (n:Nat) (q:List Int) (c:Int):Prop where
 arr:(Kpo c).1=3→∃ (g:Nat) (a b:List Int),g < n∧g ≤ 15∧c=3 + (g:Int)∧q=c :: (a ++ b)∧Kwv s (3 + (g:Int)) a b
 pair:(Kpo c).1=1→∃ (a b:List Int),c=1∧q=c :: (a ++ b)∧Kwv s 1 a b
 sum:(Kpo c).1=2→∃ (a b:List Int),c=2∧q=c :: (a ++ b)∧Kwv s 2 a b
 box:(Kpo c).1=4→∃ (g:Nat) (a:List Int),g < n∧g ≤ 15∧c=19 + (g:Int)∧q=c :: a∧Kww s (19 + (g:Int)) a
 arrB:Kph c=true ↔ (Kpo c).1=3
 boxB:Kpi c=true ↔ (Kpo c).1=4
 one:c=1 ↔ (Kpo c).1=1
 two:c=2 ↔ (Kpo c).1=2
theorem Kzi {q:List Int} (hq:TyS s q) {c:Int} {r:List Int} (e:q=c :: r):Kzh s n q c:=by
 rcases Kx1 hs hq with rfl | ⟨a,b,rfl,P⟩ | ⟨a,b,rfl,P⟩ | ⟨g,a,b,hg,h15,rfl,P⟩ | ⟨g,a,hg,h15,rfl,P⟩
 ·cases e
  refine ⟨fun h=>?_,fun h=>?_,fun h=>?_,fun h=>?_,by decide,by decide,by decide,by decide⟩ <;> exact absurd h (by decide)
 ·cases e
  refine ⟨fun h=>absurd h (by decide),fun _=>⟨a,b,rfl,rfl,P⟩,fun h=>absurd h (by decide),fun h=>absurd h (by decide),by decide,by decide,by decide,by decide⟩
 ·cases e
  refine ⟨fun h=>absurd h (by decide),fun h=>absurd h (by decide),fun _=>⟨a,b,rfl,rfl,P⟩,fun h=>absurd h (by decide),by decide,by decide,by decide,by decide⟩
 ·cases e
  have hsh:=Kz9 g h15
  refine ⟨fun _=>⟨g,a,b,hg,h15,rfl,rfl,P⟩,fun h=>?_,fun h=>?_,fun h=>?_,?_,?_,?_,?_⟩
  ·rw [hsh] at h; simp at h
  ·rw [hsh] at h; simp at h
  ·rw [hsh] at h; simp at h
  ·rw [hsh,Kzb g h15]; simp
  ·rw [hsh,Kzd g h15]; simp
  ·rw [hsh]; simp; omega
  ·rw [hsh]; simp; omega
 ·cases e
  have hsh:=Kza g h15
  refine ⟨fun h=>?_,fun h=>?_,fun h=>?_,fun _=>⟨g,_,hg,h15,rfl,rfl,P⟩,?_,?_,?_,?_⟩
  ·rw [hsh] at h; simp at h
  ·rw [hsh] at h; simp at h
  ·rw [hsh] at h; simp at h
  ·rw [hsh,Kzc g h15]; simp
  ·rw [hsh,Kze g h15]; simp
  ·rw [hsh]; simp; omega
  ·rw [hsh]; simp; omega
theorem Kzj (ih:Kyw s n (tsz (⟨10,N,ty,ks⟩:K02))) (h:tOk (gN s.fSize true) (yN s.fSize true) ctx.length ⟨10,N,ty,ks⟩=true) (hc:∀ q ∈ ctx,TyS s q) (hb:ctx.length + 2 * tsz (⟨10,N,ty,ks⟩:K02) ≤ 1000000):∃ x y,Kyf s n ctx ⟨10,N,ty,ks⟩ x y:=by
 obtain ⟨k0,k1,rfl,p0,p1⟩:=nd2 h (Nat.le_refl _) rfl
 have hz:=Kum 10 N ty k0 k1
 obtain ⟨x0,y0,r0⟩:=ih k0 ctx p0 hc (by omega)
 obtain ⟨x1,y1,r1⟩:=ih k1 ctx p1 hc (by omega)
 by_cases f0:x0.ffault=0
 rotate_left
 ·exact Kyy (by decide) (by decide) (by decide) hb r0 f0
 obtain ⟨g0,q0,a,na,la,ba⟩:=r0.gd f0
 obtain ⟨c0,t0,ht0,hn0,hz0⟩:=Kz1 hs g0
 have L0:=Kws g0
 have e0:Ko6 (s,ctx,⟨10,N,ty,[k0,k1]⟩,0)=some x0:=Kyg (i:=0) rfl r0 f0
 have C:=Kzi hs g0 ht0
 have i0:idx x0.fty 0=some c0:=by rw [ht0]; rfl
 by_cases z0:(Kpo c0).1=3
 rotate_left
 ·have w0:Kph c0=false:=by cases h:Kph c0 with | true=>exact absurd (C.arrB.1 h) z0 | false=>rfl
  refine Kyf.bad (f:=6) (p:=[]) ?_ (Kxl (by omega) (Kyj (m:=[]) rfl (Kys (by decide)) r0 (by simp; omega) f0 (by rw [ht0,Kxs,if_neg z0]) (by decide))) (by decide) (by simp; omega)
  rw [Ko4.eq_def]
  simp [e0,f0,i0,Kpk,w0,Kny]
 obtain ⟨g,p,q,hg,h15,hcg,hq,P⟩:=C.arr z0
 have w0:Kph c0=true:=C.arrB.2 z0
 have o0:=Kyl (out:=[]) (nd:=[]) (us:=[]) (w:=0) (t:=⟨10,N,ty,[k0,k1]⟩) (m:=[]) rfl (Kys (by decide)) r0 (by simp; omega) f0 (by rw [ht0,Kxs,if_pos z0]) (Kxo (by decide)) na (by simp <;> omega) (by simp) (by simp) (by simp) (by simp)
 have m1:Kxa ⟨10,N,ty,[k0,k1]⟩ [y0] 1=some []:=Kyu (by decide) (Kym (by decide) rfl)
 by_cases f1:x1.ffault=0
 rotate_left
 ·have e1:Ko6 (s,ctx,⟨10,N,ty,[k0,k1]⟩,1)=some ⟨[],[],x1.ffault,1 :: x1.fpath⟩:=Kyh (i:=1) rfl r1 (by omega) f1
  refine Kyf.bad (f:=x1.ffault) (p:=1 :: x1.fpath) ?_ (Kxl (by omega) (o0.trans (Kyi (m:=[]) rfl m1 r1 (by omega) (by simp; omega) f1))) f1 (by have:=r1.pl; simp; omega)
  rw [Ko4.eq_def]
  simp [e0,f0,i0,Kpk,w0,e1,f1]
 obtain ⟨g1,q1,b,nb,lb,bb⟩:=r1.gd f1
 obtain ⟨c1,t1,ht1,hn1,hz1⟩:=Kz1 hs g1
 have L1:=Kws g1
 have e1:Ko6 (s,ctx,⟨10,N,ty,[k0,k1]⟩,1)=some x1:=Kyg (i:=1) rfl r1 f1
 have hp0:Kdw (x0.fty,0)=some p:=by rw [hq,hcg]; exact P.p0
 have hp1:Kdw (x0.fty,1)=some q:=by rw [hq,hcg]; exact P.p1
 have hpp:Kgu y0.fty=some [p,q]:=by rw [r0.ty,hq,hcg]; exact P.pp
 have Lp:=Kws P.ya
 have Lq:=Kws P.yb
 have hsm:=Ktz x1.fty p (by omega)
 have hsi:=Ku1 x1.fty p (by omega)
 have ha:Kxg ⟨10,N,ty,[k0,k1]⟩ [y0] 1 y1=some (!(x1.fty == p)):=by
  unfold Kxg
  rw [if_pos (show ((10:Int) == 10)=true by decide),if_pos (by decide),Kxx,bs,hpp,bs,Kxx,bs,r1.ty,hsi,bs]
 by_cases hqq:x1.fty=p
 rotate_left
 ·rw [show (x1.fty == p)=false from beq_eq_false_iff_ne.2 hqq] at hsm ha
  refine Kyf.bad (f:=3) (p:=[]) ?_ (Kxl (by omega) (o0.trans (Kyk (m:=[]) rfl m1 r1 (by simp; omega) f1 (by rw [ht1]; exact Kxp (.inr (by decide))) ha))) (by decide) (by simp; omega)
  rw [Ko4.eq_def]
  simp [e0,f0,i0,Kpk,w0,e1,f1,hp0,hsm,Kny]
 rw [show (x1.fty == p)=true from beq_iff_eq.2 hqq] at hsm ha
 have o1:=Kyl (out:=[y0]) (nd:=[Kv1 a]) (us:=[Kv1 []]) (w:=1) (t:=⟨10,N,ty,[k0,k1]⟩) (m:=[]) rfl m1 r1 (by simp; omega) f1 (by rw [ht1]; exact Kxp (.inr (by decide))) ha nb (by simp <;> omega) (by simp) (by simp) (by simp) (by simp)
 have hf:=Ky9 (N:=N) (ty:=ty) (ks:=[k0,k1]) (ctx:=ctx) (us:=[Kv1 [],Kv1 []]) (z:=Kv1 (List.replicate ctx.length 0)) (y0:=y0) (y1:=y1) hs hg (p:=p) (q:=q) (by rw [r0.ty,hq,hcg]) P ba bb (by omega) (by omega)
 have im:=Kyx (q:=q) (ns:=Kve s n a (Kvf s n g b)) (kids:=[y0,y1]) Lq (Kxm (p0:=⟨s⟩) (t:=⟨10,N,ty,[k0,k1]⟩) (ctx:=ctx) (by omega) (o0.trans (o1.trans (Kxd (Nat.le_refl _)))) hf)
 have lsc:(Kvf s n g b).length=ctx.length:=by unfold Kvf; rw [List.length_map]; exact lb
 refine Kyf.good (q:=q) (ns:=Kve s n a (Kvf s n g b)) (kids:=[y0,y1]) ?_ im (by omega) P.yb (by unfold Kve; rw [List.length_zipWith]; omega) (Kvk hs ba (Kvl hs hg bb)) rfl (kd2 (Kye.mk' (Kym (by decide) rfl) r0 f0 (fun _ h=>by cases h) rfl) (Kye.mk' (Kym (by decide) rfl) r1 f1 (fun _ h=>by cases h) rfl))
 have hgr:Kd5 c0=some (g:Int):=by rw [hcg]; exact Kzf g h15
 rw [Ko4.eq_def]
 simp [e0,f0,i0,Kpk,w0,e1,f1,hp0,hp1,hsm,hgr,na,nb,Kvq hs g hg a b ba bb (by omega) (by omega)]
theorem Kzk (ih:Kyw s n (tsz (⟨5,N,ty,ks⟩:K02))) (h:tOk (gN s.fSize true) (yN s.fSize true) ctx.length ⟨5,N,ty,ks⟩=true) (hc:∀ q ∈ ctx,TyS s q) (hb:ctx.length + 2 * tsz (⟨5,N,ty,ks⟩:K02) ≤ 1000000):∃ x y,Kyf s n ctx ⟨5,N,ty,ks⟩ x y:=by
 obtain ⟨k0,k1,rfl,p0,p1⟩:=nd2 h (Nat.le_refl _) rfl
 have hz:=Kum 5 N ty k0 k1
 obtain ⟨g,hN,hg⟩:=Kx4 hs (Kx6 h rfl)
 simp only at hN
 subst hN
 obtain ⟨x0,y0,r0⟩:=ih k0 ctx p0 hc (by omega)
 by_cases f0:x0.ffault=0
 rotate_left
 ·exact Kyy (by decide) (by decide) (by decide) hb r0 f0
 obtain ⟨g0,q0,a,na,la,ba⟩:=r0.gd f0
 obtain ⟨c0,t0,ht0,hn0,hz0⟩:=Kz1 hs g0
 have L0:=Kws g0
 have e0:Ko6 (s,ctx,⟨5,(g:Int),ty,[k0,k1]⟩,0)=some x0:=Kyg (i:=0) rfl r0 f0
 have C:=Kzi hs g0 ht0
 have i0:idx x0.fty 0=some c0:=by rw [ht0]; rfl
 by_cases z0:(Kpo c0).1=1
 rotate_left
 ·have w0:c0 ≠ 1:=fun h=>z0 (C.one.1 h)
  refine Kyf.bad (f:=4) (p:=[]) ?_ (Kxl (by omega) (Kyj (m:=[]) rfl (Kys (by decide)) r0 (by simp; omega) f0 (by rw [ht0,Kxt hs hg,if_neg z0]) (by decide))) (by decide) (by simp; omega)
  rw [Ko4.eq_def]
  simp [e0,f0,i0,Ko5.eq_def,w0,Kny]
 obtain ⟨p,q,hcg,hq,P⟩:=C.pair z0
 have hle:=sLe hs.tab (Kv8 hs) hg
 cases hl:le s n 1 g with
 | false =>
  have hl2:Ka2 (s,1,(g:Int))=some false:=by rw [← hl]; exact hle
  refine Kyf.bad (f:=8) (p:=[]) ?_ (Kxl (by omega) (Kyj (m:=[]) rfl (Kys (by decide)) r0 (by simp; omega) f0 (by rw [ht0,Kxt hs hg,if_pos z0,hl]; rfl) (by decide))) (by decide) (by simp; omega)
  rw [Ko4.eq_def]
  simp [e0,f0,i0,Ko5.eq_def,hcg,hl2,Kny]
 | true =>
 have hl2:Ka2 (s,1,(g:Int))=some true:=by rw [← hl]; exact hle
 have o0:=Kyl (out:=[]) (nd:=[]) (us:=[]) (w:=0) (t:=⟨5,(g:Int),ty,[k0,k1]⟩) (m:=[]) rfl (Kys (by decide)) r0 (by simp; omega) f0 (by rw [ht0,Kxt hs hg,if_pos z0,hl]; rfl) (Kxn (show (5:Int) ≠ 10 by decide)) na (by simp <;> omega) (by simp) (by simp) (by simp) (by simp)
 have hp0:Kdw (x0.fty,0)=some p:=by rw [hq,hcg]; exact P.p0
 have hp1:Kdw (x0.fty,1)=some q:=by rw [hq,hcg]; exact P.p1
 have ad:Kic (⟨5,(g:Int),ty,[k0,k1]⟩,((1:Nat):Int),y0.fty)=some [q,p]:=by rw [r0.ty,hq,hcg]; exact Kyo P
 have hm':∀ z ∈ [q,p],TyS s z:=fun z hz=>by simp at hz; rcases hz with rfl | rfl; exact P.yb; exact P.ya
 have m1:Kxa ⟨5,(g:Int),ty,[k0,k1]⟩ [y0] 1=some [q,p]:=Kyu (by decide) ad
 have p1':Kx5 s ([q,p] ++ ctx).length k1 (tsz (⟨5,(g:Int),ty,[k0,k1]⟩:K02)):=by
  have e:([q,p] ++ ctx).length=ctx.length + Kqt 5 1:=by simp [Kqt]
  rw [e]; exact p1
 obtain ⟨x1,y1,r1⟩:=ih k1 ([q,p] ++ ctx) p1' (fun z hz=>by rcases List.mem_append.1 hz with hz | hz; exact hm' z hz; exact hc z hz) (by simp; omega)
 have hwc:=Kw4 ctx [q,p] (by simp; omega)
 by_cases f1:x1.ffault=0
 rotate_left
 ·have e1:Ko6 (s,q :: p :: ctx,⟨5,(g:Int),ty,[k0,k1]⟩,1)=some ⟨[],[],x1.ffault,1 :: x1.fpath⟩:=Kyh (i:=1) rfl r1 (by omega) f1
  refine Kyf.bad (f:=x1.ffault) (p:=1 :: x1.fpath) ?_ (Kxl (by omega) (o0.trans (Kyi (m:=[q,p]) rfl m1 r1 (by omega) (by simp; omega) f1))) f1 (by have:=r1.pl; simp; omega)
  rw [Ko4.eq_def]
  simp [e0,f0,i0,Ko5.eq_def,hcg,hl2,hp0,hp1,hwc,e1,f1]
 obtain ⟨g1,q1,b,nb,lb,bb⟩:=r1.gd f1
 obtain ⟨c1,t1,ht1,hn1,hz1⟩:=Kz1 hs g1
 have L1:=Kws g1
 have e1:Ko6 (s,q :: p :: ctx,⟨5,(g:Int),ty,[k0,k1]⟩,1)=some x1:=Kyg (i:=1) rfl r1 f1
 have lb':b.length=ctx.length + 2:=by rw [lb]; simp
 obtain ⟨u0,u1,b',rfl⟩:∃ u0 u1 b',b=u0 :: u1 :: b':=by match b,lb' with | u0 :: u1 :: b',_=>exact ⟨u0,u1,b',rfl⟩ | [_],h=>simp at h | [],h=>simp at h
 obtain ⟨hu0,bb1⟩:=Kvi bb
 obtain ⟨hu1,bb'⟩:=Kvi bb1
 have o1:=Kyl (out:=[y0]) (nd:=[Kv1 a]) (us:=[Kv1 []]) (w:=1) (t:=⟨5,(g:Int),ty,[k0,k1]⟩) (m:=[q,p]) rfl m1 r1 (by simp; omega) f1 (by rw [ht1]; exact Kxp (.inr (by decide))) (Kxn (show (5:Int) ≠ 10 by decide)) nb (by simp <;> omega) (by simp) (by simp) (by simp) (by simp)
 simp only [List.length_cons,List.length_nil,Nat.zero_add,List.drop_succ_cons,List.drop_zero,List.take_succ_cons,List.take_zero,List.nil_append] at o1
 have hl0:=o0.trans (o1.trans (Kxd (Nat.le_refl _)))
 have lbc:b'.length=ctx.length:=by simp at lb'; omega
 have i1:idx x1.fneeds 0=some (u0:Int):=by rw [nb]; rfl
 have hcut:cut x1.fneeds (some (2:Int)) none none=some (Kv1 b'):=by
  rw [nb]
  have:=Kxf (l:=Kv1 (u0 :: u1 :: b')) (m:=2) (by simp [Kv1])
  exact this
 have hcp:=Krm (Kv1 b') (by rw [Kv2]; omega)
 have i2:idx x1.fneeds 1=some (u1:Int):=by rw [nb]; rfl
 have hle0:=sLe hs.tab hu0 hg
 have hle1:=sLe hs.tab hu1 hg
 have hf:=Kya (ty:=ty) (ks:=[k0,k1]) (ctx:=ctx) (z:=Kv1 (List.replicate ctx.length 0)) (y0:=y0) (y1:=y1) (us':=Kv1 []) (u:=[u0,u1]) hs hg (fun x hx=>by simp at hx; rcases hx with rfl | rfl; exact hu0; exact hu1) (by simp) ba bb' (by omega) (by omega) (by rw [r1.ty]; omega)
 simp only [List.all_cons,List.all_nil,Bool.and_true] at hf
 have es:=e1
 cases hal:(le s n u0 g && le s n u1 g) with
 | false =>
  rw [hal,if_neg (by decide)] at hf
  refine Kyf.bad (f:=9) (p:=[]) ?_ (Kxm (by omega) hl0 hf) (by decide) (by simp; omega)
  rw [Ko4.eq_def]
  simp [e0,f0,i0,Ko5.eq_def,hcg,hl2,hp0,hp1,hwc,e1,f1,i1,i2,hcut,hcp,hle0,hle1,Kny]
  cases q1:le s n u1 g with
  | false=>simp
  | true=>rw [q1,Bool.and_true] at hal; simp [hal]
 | true =>
  rw [hal,if_pos rfl] at hf
  have im:=Kyx (q:=y1.fty) (ns:=Kve s n (Kvf s n g a) b') (kids:=[y0,y1]) (by rw [r1.ty]; omega) (Kxm (by omega) hl0 hf)
  rw [r1.ty] at im
  have lsc:(Kvf s n g a).length=ctx.length:=by unfold Kvf; rw [List.length_map]; exact la
  have hsc:=Kvl hs hg ba
  have hz0:=Kvo hs hsc
  rw [lsc] at hz0
  have hsum:=Kvq hs g hg (List.replicate ctx.length 0) a (fun x hx=>by rw [List.eq_of_mem_replicate hx]; exact Kv9 hs) ba (by simp; omega) (by simp [la])
  rw [hz0] at hsum
  have hs2:=Kvr hs (Kvf s n g a) b' hsc bb' (by omega) (by omega)
  refine Kyf.good (q:=x1.fty) (ns:=Kve s n (Kvf s n g a) b') (kids:=[y0,y1]) ?_ im (by omega) g1 (by unfold Kve; rw [List.length_zipWith]; omega) (Kvk hs hsc bb') rfl (kd2 (Kye.mk' (Kym (by decide) rfl) r0 f0 (fun _ h=>by cases h) rfl) (Kye.mk' ad r1 f1 hm' rfl))
  rw [Ko4.eq_def]
  rw [Bool.and_eq_true] at hal
  simp [e0,f0,i0,Ko5.eq_def,hcg,hl2,hp0,hp1,hwc,e1,f1,i1,i2,hcut,hcp,hle0,hle1,hal.1,hal.2,na,Kw3 ctx.length (by omega),hsum,hs2]
theorem Kzl (ih:Kyw s n (tsz (⟨12,N,ty,ks⟩:K02))) (h:tOk (gN s.fSize true) (yN s.fSize true) ctx.length ⟨12,N,ty,ks⟩=true) (hc:∀ q ∈ ctx,TyS s q) (hb:ctx.length + 2 * tsz (⟨12,N,ty,ks⟩:K02) ≤ 1000000):∃ x y,Kyf s n ctx ⟨12,N,ty,ks⟩ x y:=by
 obtain ⟨k0,k1,rfl,p0,p1⟩:=nd2 h (Nat.le_refl _) rfl
 have hz:=Kum 12 N ty k0 k1
 obtain ⟨g,hN,hg⟩:=Kx4 hs (Kx6 h rfl)
 simp only at hN
 subst hN
 obtain ⟨x0,y0,r0⟩:=ih k0 ctx p0 hc (by omega)
 by_cases f0:x0.ffault=0
 rotate_left
 ·exact Kyy (by decide) (by decide) (by decide) hb r0 f0
 obtain ⟨g0,q0,a,na,la,ba⟩:=r0.gd f0
 obtain ⟨c0,t0,ht0,hn0,hz0⟩:=Kz1 hs g0
 have L0:=Kws g0
 have e0:Ko6 (s,ctx,⟨12,(g:Int),ty,[k0,k1]⟩,0)=some x0:=Kyg (i:=0) rfl r0 f0
 have C:=Kzi hs g0 ht0
 have i0:idx x0.fty 0=some c0:=by rw [ht0]; rfl
 by_cases z0:(Kpo c0).1=4
 rotate_left
 ·have w0:Kpi c0=false:=by cases h:Kpi c0 with | true=>exact absurd (C.boxB.1 h) z0 | false=>rfl
  refine Kyf.bad (f:=7) (p:=[]) ?_ (Kxl (by omega) (Kyj (m:=[]) rfl (Kys (by decide)) r0 (by simp; omega) f0 (by rw [ht0,Kxv hs hg,if_neg z0]) (by decide))) (by decide) (by simp; omega)
  rw [Ko4.eq_def]
  simp [e0,f0,i0,Ko5.eq_def,Kpl,w0,Kny]
 obtain ⟨m,p,hm,h15,hcg,hq,P⟩:=C.box z0
 have w0:Kpi c0=true:=C.boxB.2 z0
 have hle:=sLe hs.tab (Kv8 hs) hg
 cases hl:le s n 1 g with
 | false =>
  have hl2:Ka2 (s,1,(g:Int))=some false:=by rw [← hl]; exact hle
  refine Kyf.bad (f:=8) (p:=[]) ?_ (Kxl (by omega) (Kyj (m:=[]) rfl (Kys (by decide)) r0 (by simp; omega) f0 (by rw [ht0,Kxv hs hg,if_pos z0,hl]; rfl) (by decide))) (by decide) (by simp; omega)
  rw [Ko4.eq_def]
  simp [e0,f0,i0,Ko5.eq_def,Kpl,w0,hl2,Kny]
 | true =>
 have hl2:Ka2 (s,1,(g:Int))=some true:=by rw [← hl]; exact hle
 have o0:=Kyl (out:=[]) (nd:=[]) (us:=[]) (w:=0) (t:=⟨12,(g:Int),ty,[k0,k1]⟩) (m:=[]) rfl (Kys (by decide)) r0 (by simp; omega) f0 (by rw [ht0,Kxv hs hg,if_pos z0,hl]; rfl) (Kxn (show (12:Int) ≠ 10 by decide)) na (by simp <;> omega) (by simp) (by simp) (by simp) (by simp)
 have hp0:Kdw (x0.fty,0)=some p:=by rw [hq,hcg]; exact P.p0
 have ad:Kic (⟨12,(g:Int),ty,[k0,k1]⟩,((1:Nat):Int),y0.fty)=some [p]:=by rw [r0.ty,hq,hcg]; exact Kyr P
 have hm':∀ z ∈ [p],TyS s z:=fun z hz=>by simp at hz; rw [hz]; exact P.ya
 have hgr:Kd5 c0=some (m:Int):=by rw [hcg]; exact Kzg m h15
 have m1:Kxa ⟨12,(g:Int),ty,[k0,k1]⟩ [y0] 1=some [p]:=Kyu (by decide) ad
 have p1':Kx5 s ([p] ++ ctx).length k1 (tsz (⟨12,(g:Int),ty,[k0,k1]⟩:K02)):=by
  have e:([p] ++ ctx).length=ctx.length + Kqt 12 1:=by simp [Kqt]
  rw [e]; exact p1
 obtain ⟨x1,y1,r1⟩:=ih k1 ([p] ++ ctx) p1' (fun z hz=>by rcases List.mem_append.1 hz with hz | hz; exact hm' z hz; exact hc z hz) (by simp; omega)
 have hwc:=Kw4 ctx [p] (by simp; omega)
 by_cases f1:x1.ffault=0
 rotate_left
 ·have e1:Ko6 (s,p :: ctx,⟨12,(g:Int),ty,[k0,k1]⟩,1)=some ⟨[],[],x1.ffault,1 :: x1.fpath⟩:=Kyh (i:=1) rfl r1 (by omega) f1
  refine Kyf.bad (f:=x1.ffault) (p:=1 :: x1.fpath) ?_ (Kxl (by omega) (o0.trans (Kyi (m:=[p]) rfl m1 r1 (by omega) (by simp; omega) f1))) f1 (by have:=r1.pl; simp; omega)
  rw [Ko4.eq_def]
  simp [e0,f0,i0,Ko5.eq_def,Kpl,w0,hl2,hp0,hwc,e1,f1]
 obtain ⟨g1,q1,b,nb,lb,bb⟩:=r1.gd f1
 obtain ⟨c1,t1,ht1,hn1,hz1⟩:=Kz1 hs g1
 have L1:=Kws g1
 have e1:Ko6 (s,p :: ctx,⟨12,(g:Int),ty,[k0,k1]⟩,1)=some x1:=Kyg (i:=1) rfl r1 f1
 have lb':b.length=ctx.length + 1:=by rw [lb]; simp
 obtain ⟨u0,b',rfl⟩:∃ u0 b',b=u0 :: b':=by match b,lb' with | u0 :: b',_=>exact ⟨u0,b',rfl⟩ | [],h=>simp at h
 obtain ⟨hu0,bb'⟩:=Kvi bb
 have o1:=Kyl (out:=[y0]) (nd:=[Kv1 a]) (us:=[Kv1 []]) (w:=1) (t:=⟨12,(g:Int),ty,[k0,k1]⟩) (m:=[p]) rfl m1 r1 (by simp; omega) f1 (by rw [ht1]; exact Kxp (.inr (by decide))) (Kxn (show (12:Int) ≠ 10 by decide)) nb (by simp <;> omega) (by simp) (by simp) (by simp) (by simp)
 simp only [List.length_cons,List.length_nil,Nat.zero_add,List.drop_succ_cons,List.drop_zero,List.take_succ_cons,List.take_zero,List.nil_append] at o1
 have hl0:=o0.trans (o1.trans (Kxd (Nat.le_refl _)))
 have lbc:b'.length=ctx.length:=by simp at lb'; omega
 have i1:idx x1.fneeds 0=some (u0:Int):=by rw [nb]; rfl
 have hcut:cut x1.fneeds (some (1:Int)) none none=some (Kv1 b'):=by
  rw [nb]
  have:=Kxf (l:=Kv1 (u0 :: b')) (m:=1) (by simp [Kv1])
  exact this
 have hcp:=Krm (Kv1 b') (by rw [Kv2]; omega)
 have hmul:=Kon hs.tab hg hm
 have htm:=Koi hs.tab hg hm
 have hle0:=sLe hs.tab hu0 htm
 have hf:=Kyb (ty:=ty) (ks:=[k0,k1]) (ctx:=ctx) (z:=Kv1 (List.replicate ctx.length 0)) (y0:=y0) (y1:=y1) (us':=Kv1 []) (u:=[u0]) hs hg hm (p:=p) (by rw [r0.ty,hq,hcg]) (fun x hx=>by simp at hx; rw [hx]; exact hu0) (by simp) ba bb' (by omega) (by omega) (by rw [r1.ty]; omega)
 simp only [List.all_cons,List.all_nil,Bool.and_true] at hf
 have es:=e1
 cases hal:(le s n u0 (ti s n g m)) with
 | false =>
  rw [hal,if_neg (by decide)] at hf
  refine Kyf.bad (f:=9) (p:=[]) ?_ (Kxm (by omega) hl0 hf) (by decide) (by simp; omega)
  rw [Ko4.eq_def]
  simp [e0,f0,i0,Ko5.eq_def,Kpl,w0,hl2,hp0,hwc,e1,f1,i1,hcut,hcp,hgr,hmul,hle0,hal,Kny]
 | true =>
  rw [hal,if_pos rfl] at hf
  have im:=Kyx (q:=y1.fty) (ns:=Kve s n (Kvf s n g a) b') (kids:=[y0,y1]) (by rw [r1.ty]; omega) (Kxm (by omega) hl0 hf)
  rw [r1.ty] at im
  have lsc:(Kvf s n g a).length=ctx.length:=by unfold Kvf; rw [List.length_map]; exact la
  have hsc:=Kvl hs hg ba
  have hz0:=Kvo hs hsc
  rw [lsc] at hz0
  have hsum:=Kvq hs g hg (List.replicate ctx.length 0) a (fun x hx=>by rw [List.eq_of_mem_replicate hx]; exact Kv9 hs) ba (by simp; omega) (by simp [la])
  rw [hz0] at hsum
  have hs2:=Kvr hs (Kvf s n g a) b' hsc bb' (by omega) (by omega)
  refine Kyf.good (q:=x1.fty) (ns:=Kve s n (Kvf s n g a) b') (kids:=[y0,y1]) ?_ im (by omega) g1 (by unfold Kve; rw [List.length_zipWith]; omega) (Kvk hs hsc bb') rfl (kd2 (Kye.mk' (Kym (by decide) rfl) r0 f0 (fun _ h=>by cases h) rfl) (Kye.mk' ad r1 f1 hm' rfl))
  rw [Ko4.eq_def]
  simp [e0,f0,i0,Ko5.eq_def,Kpl,w0,hl2,hp0,hwc,e1,f1,i1,hcut,hcp,hgr,hmul,hle0,hal,na,Kw3 ctx.length (by omega),hsum,hs2]
theorem Kzm (ih:Kyw s n (tsz (⟨8,N,ty,ks⟩:K02))) (h:tOk (gN s.fSize true) (yN s.fSize true) ctx.length ⟨8,N,ty,ks⟩=true) (hc:∀ q ∈ ctx,TyS s q) (hb:ctx.length + 2 * tsz (⟨8,N,ty,ks⟩:K02) ≤ 1000000):∃ x y,Kyf s n ctx ⟨8,N,ty,ks⟩ x y:=by
 obtain ⟨k0,k1,k2,rfl,p0,p1,p2⟩:=nd3 h (Nat.le_refl _) rfl
 have hz:=Kun 8 N ty k0 k1 k2
 obtain ⟨g,hN,hg⟩:=Kx4 hs (Kx6 h rfl)
 simp only at hN
 subst hN
 obtain ⟨x0,y0,r0⟩:=ih k0 ctx p0 hc (by omega)
 by_cases f0:x0.ffault=0
 rotate_left
 ·exact Kyy (by decide) (by decide) (by decide) hb r0 f0
 obtain ⟨g0,q0,a,na,la,ba⟩:=r0.gd f0
 obtain ⟨c0,t0,ht0,hn0,hz0⟩:=Kz1 hs g0
 have L0:=Kws g0
 have e0:Ko6 (s,ctx,⟨8,(g:Int),ty,[k0,k1,k2]⟩,0)=some x0:=Kyg (i:=0) rfl r0 f0
 have C:=Kzi hs g0 ht0
 have i0:idx x0.fty 0=some c0:=by rw [ht0]; rfl
 by_cases z0:(Kpo c0).1=2
 rotate_left
 ·have w0:c0 ≠ 2:=fun h=>z0 (C.two.1 h)
  refine Kyf.bad (f:=5) (p:=[]) ?_ (Kxl (by omega) (Kyj (m:=[]) rfl (Kys (by decide)) r0 (by simp; omega) f0 (by rw [ht0,Kxu hs hg,if_neg z0]) (by decide))) (by decide) (by simp; omega)
  rw [Ko4.eq_def]
  simp [e0,f0,i0,Ko5.eq_def,w0,Kny]
 obtain ⟨p,q,hcg,hq,P⟩:=C.sum z0
 have hle:=sLe hs.tab (Kv8 hs) hg
 cases hl:le s n 1 g with
 | false =>
  have hl2:Ka2 (s,1,(g:Int))=some false:=by rw [← hl]; exact hle
  refine Kyf.bad (f:=8) (p:=[]) ?_ (Kxl (by omega) (Kyj (m:=[]) rfl (Kys (by decide)) r0 (by simp; omega) f0 (by rw [ht0,Kxu hs hg,if_pos z0,hl]; rfl) (by decide))) (by decide) (by simp; omega)
  rw [Ko4.eq_def]
  simp [e0,f0,i0,Ko5.eq_def,hcg,hl2,Kny]
 | true =>
 have hl2:Ka2 (s,1,(g:Int))=some true:=by rw [← hl]; exact hle
 have o0:=Kyl (out:=[]) (nd:=[]) (us:=[]) (w:=0) (t:=⟨8,(g:Int),ty,[k0,k1,k2]⟩) (m:=[]) rfl (Kys (by decide)) r0 (by simp; omega) f0 (by rw [ht0,Kxu hs hg,if_pos z0,hl]; rfl) (Kxn (show (8:Int) ≠ 10 by decide)) na (by simp <;> omega) (by simp) (by simp) (by simp) (by simp)
 have hp0:Kdw (x0.fty,0)=some p:=by rw [hq,hcg]; exact P.p0
 have hp1:Kdw (x0.fty,1)=some q:=by rw [hq,hcg]; exact P.p1
 have ad1:Kic (⟨8,(g:Int),ty,[k0,k1,k2]⟩,((1:Nat):Int),y0.fty)=some [p]:=by rw [r0.ty,hq,hcg]; exact Kyp P
 have ad2:Kic (⟨8,(g:Int),ty,[k0,k1,k2]⟩,((2:Nat):Int),y0.fty)=some [q]:=by rw [r0.ty,hq,hcg]; exact Kyq P
 have hm1:∀ z ∈ [p],TyS s z:=fun z hz=>by simp at hz; rw [hz]; exact P.ya
 have hm2:∀ z ∈ [q],TyS s z:=fun z hz=>by simp at hz; rw [hz]; exact P.yb
 have m1:Kxa ⟨8,(g:Int),ty,[k0,k1,k2]⟩ [y0] 1=some [p]:=Kyu (by decide) ad1
 have p1':Kx5 s ([p] ++ ctx).length k1 (tsz (⟨8,(g:Int),ty,[k0,k1,k2]⟩:K02)):=by
  have e:([p] ++ ctx).length=ctx.length + Kqt 8 1:=by simp [Kqt]
  rw [e]; exact p1
 obtain ⟨x1,y1,r1⟩:=ih k1 ([p] ++ ctx) p1' (fun z hz=>by rcases List.mem_append.1 hz with hz | hz; exact hm1 z hz; exact hc z hz) (by simp; omega)
 have hw1:=Kw4 ctx [p] (by simp; omega)
 by_cases f1:x1.ffault=0
 rotate_left
 ·have e1:Ko6 (s,p :: ctx,⟨8,(g:Int),ty,[k0,k1,k2]⟩,1)=some ⟨[],[],x1.ffault,1 :: x1.fpath⟩:=Kyh (i:=1) rfl r1 (by omega) f1
  refine Kyf.bad (f:=x1.ffault) (p:=1 :: x1.fpath) ?_ (Kxl (by omega) (o0.trans (Kyi (m:=[p]) rfl m1 r1 (by omega) (by simp; omega) f1))) f1 (by have:=r1.pl; simp; omega)
  rw [Ko4.eq_def]
  simp [e0,f0,i0,Ko5.eq_def,hcg,hl2,hp0,hp1,hw1,e1,f1]
 obtain ⟨g1,q1,b,nb,lb,bb⟩:=r1.gd f1
 obtain ⟨c1,t1,ht1,hn1,hz1⟩:=Kz1 hs g1
 have L1:=Kws g1
 have e1:Ko6 (s,p :: ctx,⟨8,(g:Int),ty,[k0,k1,k2]⟩,1)=some x1:=Kyg (i:=1) rfl r1 f1
 have lb':b.length=ctx.length + 1:=by rw [lb]; simp
 obtain ⟨u0,b',rfl⟩:∃ u0 b',b=u0 :: b':=by match b,lb' with | u0 :: b',_=>exact ⟨u0,b',rfl⟩ | [],h=>simp at h
 obtain ⟨hu0,bb'⟩:=Kvi bb
 have lbc:b'.length=ctx.length:=by simp at lb'; omega
 have i1:idx x1.fneeds 0=some (u0:Int):=by rw [nb]; rfl
 have hcut1:cut x1.fneeds (some (1:Int)) none none=some (Kv1 b'):=by rw [nb]; exact Ktn _ _
 have hcp1:=Krm (Kv1 b') (by rw [Kv2]; omega)
 have o1:=Kyl (out:=[y0]) (nd:=[Kv1 a]) (us:=[Kv1 []]) (w:=1) (t:=⟨8,(g:Int),ty,[k0,k1,k2]⟩) (m:=[p]) rfl m1 r1 (by simp; omega) f1 (by rw [ht1]; exact Kxp (.inr (by decide))) (Kxn (show (8:Int) ≠ 10 by decide)) nb (by simp <;> omega) (by simp) (by simp) (by simp) (by simp)
 simp only [List.length_cons,List.length_nil,Nat.zero_add,List.drop_succ_cons,List.drop_zero,List.take_succ_cons,List.take_zero,List.nil_append,List.cons_append] at o1
 have m2:Kxa ⟨8,(g:Int),ty,[k0,k1,k2]⟩ [y0,y1] 2=some [q]:=Kyu (by decide) ad2
 have p2':Kx5 s ([q] ++ ctx).length k2 (tsz (⟨8,(g:Int),ty,[k0,k1,k2]⟩:K02)):=by
  have e:([q] ++ ctx).length=ctx.length + Kqt 8 2:=by simp [Kqt]
  rw [e]; exact p2
 obtain ⟨x2,y2,r2⟩:=ih k2 ([q] ++ ctx) p2' (fun z hz=>by rcases List.mem_append.1 hz with hz | hz; exact hm2 z hz; exact hc z hz) (by simp; omega)
 have hw2:=Kw4 ctx [q] (by simp; omega)
 by_cases f2:x2.ffault=0
 rotate_left
 ·have e2:Ko6 (s,q :: ctx,⟨8,(g:Int),ty,[k0,k1,k2]⟩,2)=some ⟨[],[],x2.ffault,2 :: x2.fpath⟩:=Kyh (i:=2) rfl r2 (by omega) f2
  refine Kyf.bad (f:=x2.ffault) (p:=2 :: x2.fpath) ?_ (Kxl (by omega) (o0.trans (o1.trans (Kyi (m:=[q]) rfl m2 r2 (by omega) (by simp; omega) f2)))) f2 (by have:=r2.pl; simp; omega)
  rw [Ko4.eq_def]
  simp [e0,f0,i0,Ko5.eq_def,hcg,hl2,hp0,hp1,hw1,e1,f1,hcut1,hcp1,hw2,e2,f2]
 obtain ⟨g2,q2,d,nd,ld,bd⟩:=r2.gd f2
 obtain ⟨c2,t2,ht2,hn2,hz2⟩:=Kz1 hs g2
 have L2:=Kws g2
 have e2:Ko6 (s,q :: ctx,⟨8,(g:Int),ty,[k0,k1,k2]⟩,2)=some x2:=Kyg (i:=2) rfl r2 f2
 have ld':d.length=ctx.length + 1:=by rw [ld]; simp
 obtain ⟨v0,d',rfl⟩:∃ v0 d',d=v0 :: d':=by match d,ld' with | v0 :: d',_=>exact ⟨v0,d',rfl⟩ | [],h=>simp at h
 obtain ⟨hv0,bd'⟩:=Kvi bd
 have ldc:d'.length=ctx.length:=by simp at ld'; omega
 have i2:idx x2.fneeds 0=some (v0:Int):=by rw [nd]; rfl
 have hcut2:cut x2.fneeds (some (1:Int)) none none=some (Kv1 d'):=by rw [nd]; exact Ktn _ _
 have o2:=Kyl (out:=[y0,y1]) (nd:=[Kv1 a,Kv1 b']) (us:=[Kv1 [],Kv1 [u0]]) (w:=2) (t:=⟨8,(g:Int),ty,[k0,k1,k2]⟩) (m:=[q]) rfl m2 r2 (by simp; omega) f2 (by rw [ht2]; exact Kxp (.inr (by decide))) (Kxn (show (8:Int) ≠ 10 by decide)) nd (by simp <;> omega) (by simp) (by simp) (by simp) (by simp)
 simp only [List.length_cons,List.length_nil,Nat.zero_add,List.drop_succ_cons,List.drop_zero,List.take_succ_cons,List.take_zero,List.nil_append,List.cons_append] at o2
 have hl0:=o0.trans (o1.trans (o2.trans (Kxd (Nat.le_refl _))))
 have hle0:=sLe hs.tab hu0 hg
 have hle1:=sLe hs.tab hv0 hg
 have hf:=Kyc (ty:=ty) (ks:=[k0,k1,k2]) (ctx:=ctx) (z:=Kv1 (List.replicate ctx.length 0)) (y0:=y0) (y1:=y1) (y2:=y2) (us':=Kv1 []) (u:=[u0]) (v:=[v0]) hs hg (fun x hx=>by simp at hx; rw [hx]; exact hu0) (by simp) (fun x hx=>by simp at hx; rw [hx]; exact hv0) (by simp) ba bb' bd' (by omega) (by omega) (by omega) (by rw [r2.ty]; omega) (by rw [r1.ty]; omega)
 simp only [List.all_cons,List.all_nil,Bool.and_true] at hf
 rw [r1.ty,r2.ty] at hf
 have hsm:=Ktz x1.fty x2.fty (by omega)
 have hj:=Kvt hs b' d' bb' bd' (by omega) (by omega)
 have lj:(Kvg s n b' d').length=ctx.length:=by unfold Kvg; rw [List.length_zipWith]; omega
 by_cases hqq:x1.fty=x2.fty
 rotate_left
 ·rw [if_neg hqq] at hf
  rw [show (x1.fty == x2.fty)=false from beq_eq_false_iff_ne.2 hqq] at hsm
  refine Kyf.bad (f:=3) (p:=[]) ?_ (Kxm (by omega) hl0 hf) (by decide) (by simp; omega)
  rw [Ko4.eq_def]
  simp [e0,f0,i0,Ko5.eq_def,hcg,hl2,hp0,hp1,hw1,e1,f1,hcut1,hcp1,hw2,e2,f2,hsm,Kny]
 rw [if_pos hqq] at hf
 rw [show (x1.fty == x2.fty)=true from beq_iff_eq.2 hqq] at hsm
 by_cases hal:le s n u0 g=true∧le s n v0 g=true
 rotate_left
 ·rw [if_neg hal] at hf
  refine Kyf.bad (f:=9) (p:=[]) ?_ (Kxm (by omega) hl0 hf) (by decide) (by simp; omega)
  rw [Ko4.eq_def]
  simp [e0,f0,i0,Ko5.eq_def,hcg,hl2,hp0,hp1,hw1,e1,f1,hcut1,hcp1,hw2,e2,f2,hsm,i1,i2,hle0,hle1,hcut2,hj,Kny]
  cases q1:le s n v0 g with
  | false=>simp
  | true =>
   cases q2:le s n u0 g with
   | false=>simp
   | true=>exact absurd ⟨q2,q1⟩ hal
 rw [if_pos hal] at hf
 have im:=Kyx (q:=x1.fty) (ns:=Kve s n (Kvf s n g a) (Kvg s n b' d')) (kids:=[y0,y1,y2]) (by omega) (Kxm (by omega) hl0 hf)
 have lsc:(Kvf s n g a).length=ctx.length:=by unfold Kvf; rw [List.length_map]; exact la
 have hsc:=Kvl hs hg ba
 have hz0:=Kvo hs hsc
 rw [lsc] at hz0
 have hsum:=Kvq hs g hg (List.replicate ctx.length 0) a (fun x hx=>by rw [List.eq_of_mem_replicate hx]; exact Kv9 hs) ba (by simp; omega) (by simp [la])
 rw [hz0] at hsum
 have hs2:=Kvr hs (Kvf s n g a) (Kvg s n b' d') hsc (Kvm hs bb' bd') (by omega) (by omega)
 refine Kyf.good (q:=x1.fty) (ns:=Kve s n (Kvf s n g a) (Kvg s n b' d')) (kids:=[y0,y1,y2]) ?_ im (by omega) g1 (by unfold Kve; rw [List.length_zipWith]; omega) (Kvk hs hsc (Kvm hs bb' bd')) rfl (kd3 (Kye.mk' (Kym (by decide) rfl) r0 f0 (fun _ h=>by cases h) rfl) (Kye.mk' ad1 r1 f1 hm1 rfl) (Kye.mk' ad2 r2 f2 hm2 rfl))
 rw [Ko4.eq_def]
 simp [e0,f0,i0,Ko5.eq_def,hcg,hl2,hp0,hp1,hw1,e1,f1,hcut1,hcp1,hw2,e2,f2,hsm,i1,i2,hle0,hle1,hal.1,hal.2,hcut2,hj,na,Kw3 ctx.length (by omega),hsum,hs2]
theorem Kzn:∀ (m:Nat) (t:K02) (ctx:List (List Int)),tsz t ≤ m→tOk (gN s.fSize true) (yN s.fSize true) ctx.length t=true→(∀ q ∈ ctx,TyS s q)→ctx.length + 2 * tsz t ≤ 1000000→∃ x y,Kyf s n ctx t x y
 | 0,t,ctx,hm,_,_,_=>by obtain ⟨op,N,ty,ks⟩:=t; rw [tsz] at hm; omega
 | m + 1,t,ctx,hm,h,hc,hb=>by
  have ih:Kyw s n (tsz t):=fun k c hk hc hb=>Kzn m k c (by have:=hk.sz; omega) hk.ok hc hb
  obtain ⟨op,N,ty,ks⟩:=t
  have hop:=(Krf (Krb h).1).1
  simp only at hop
  rcases Kqn hop with rfl | rfl | rfl | rfl | rfl | rfl | rfl | rfl | rfl | rfl | rfl | rfl | rfl
  ·exact Kyz hs rfl h hc hb
  ·exact Kz0 hs rfl h hb
  ·exact Kz7 hs ih h hc hb
  ·exact Kz8 hs ih h hc hb
  ·exact Kz6 hs ih h hc hb
  ·exact Kzk hs ih h hc hb
  ·exact Kz2 hs ih h hc hb
  ·exact Kz3 hs ih h hc hb
  ·exact Kzm hs ih h hc hb
  ·exact Kz5 hs ih h hc hb
  ·exact Kzj hs ih h hc hb
  ·exact Kz4 hs ih h hc hb
  ·exact Kzl hs ih h hc hb
end
theorem Kzo {l:List (List Int)} {v:List Int} (h:v ∈ l):v.length ≤ lms l:=by
 have:=Ktm h
 unfold lms; omega
theorem Kzp {s:K00} {ctx:List (List Int)} {t:K02} (h:Kwp s ctx t=true):Kv6 s s.fSize.toNat∧ctx.length ≤ 8∧(∀ q ∈ ctx,TyS s q)∧tsz t ≤ 400∧tOk (gN s.fSize true) (yN s.fSize true) ctx.length t=true:=by
 unfold Kwp Kwf Kui at h
 simp only [Bool.and_eq_true,decide_eq_true_eq,List.all_eq_true] at h
 exact ⟨Kv7 h.1.1,h.1.2.1,fun q hq=>h.1.2.2 q hq,h.2.1.2,h.2.2⟩
theorem Kzq {s:K00} {ctx:List (List Int)} {t:K02} (h:Kwp s ctx t=true):∃ x y,Kyf s s.fSize.toNat ctx t x y:=by
 obtain ⟨h1,h2,h3,h4,h5⟩:=Kzp h
 exact Kzn h1 (tsz t) t ctx (Nat.le_refl _) h5 h3 (by omega)
theorem Kzr {s:K00} {ctx:List (List Int)} {t:K02} (hc:lms ctx ≤ 1048576) (ht:tms t ≤ 1099511627776) :
  (Kwp s ctx t=false∧Knv (s,ctx,t)=some false∧Klo (s,ctx,t)=some none) ∨
  (Kwp s ctx t=true∧Knv (s,ctx,t)=some true∧∃ x y,Kyf s s.fSize.toNat ctx t x y∧Klo (s,ctx,t)=some (some y)):=by
 have hl:∀ ty ∈ ctx,ty.length ≤ 1099511627776:=fun ty h=>by have:=Kzo h; omega
 have hc':ctx.length ≤ 1048576:=by unfold lms at hc; omega
 have h1:=Kwq s ctx t hc' hl ht
 have h2:=Kwr s ctx t hc' hl ht
 cases h:Kwp s ctx t with
 | false=>rw [h] at h1 h2; exact .inl ⟨rfl,h1,by simpa using h2⟩
 | true =>
  rw [h] at h1 h2
  obtain ⟨x,y,r⟩:=Kzq h
  refine .inr ⟨rfl,h1,x,y,r,?_⟩
  rw [if_pos rfl,r.im,bs] at h2
  exact h2
theorem Kzs (s:K00) (ctx:List (List Int)) (t:K02) (hc:lms ctx ≤ 1048576) (ht:tms t ≤ 1099511627776) :
  (Ko8 (s,ctx,t)=some ([],[],false)∧Klr (s,ctx,t)=some ([],[],false)∧(Kwp s ctx t=false∨∃ x y,Kyf s s.fSize.toNat ctx t x y∧x.ffault ≠ 0)) ∨
  ∃ x y,Kyf s s.fSize.toNat ctx t x y∧x.ffault=0∧Kwp s ctx t=true∧Ko8 (s,ctx,t)=some (x.fty,x.fneeds,true)∧Klr (s,ctx,t)=some (x.fty,x.fneeds,true)∧Klo (s,ctx,t)=some (some y):=by
 unfold Ko8 Klr
 simp only
 rcases Kzr (s:=s) hc ht with ⟨h0,h1,h2⟩ | ⟨h0,h1,x,y,r,h2⟩
 ·rw [h1,h2]
  exact .inl ⟨rfl,rfl,.inl h0⟩
 ·rw [h1,h2,bs,bs,if_pos rfl,r.sp,bs]
  by_cases hf:x.ffault=0
  ·obtain ⟨g,_,ns,hn,hl,_⟩:=r.gd hf
   have:=Kws g
   obtain ⟨_,h8,_⟩:=Kzp h0
   refine .inr ⟨x,y,r,hf,h0,by rw [if_neg (by simp [hf])],?_,rfl⟩
   simp only
   rw [if_neg (by rw [r.fa]; simp [hf]),r.ty,Krn x.fty (by omega),bs,r.ne,Krn x.fneeds (by rw [hn,Kv2]; omega),bs]
  ·refine .inl ⟨by rw [if_pos (bne_iff_ne.2 hf)],?_,.inr ⟨x,y,r,hf⟩⟩
   simp only
   rw [if_pos (by rw [r.fa]; exact bne_iff_ne.2 hf)]
structure Kzt (s:K00) (ctx:List (List Int)) (t:K02) (y:K03):Prop where
 ok:tOk (gN s.fSize true) (yN s.fSize true) ctx.length t=true
 cx:∀ q ∈ ctx,TyS s q
 bd:ctx.length + 2 * tsz t ≤ 1000000
 im:Klh (⟨s⟩,ctx,t)=some y
 fa:y.ffault=0
section
variable {s:K00} {n:Nat} (hs:Kv6 s n) {ctx:List (List Int)} {t:K02} {y:K03}
include hs
theorem Kzt.tell (g:Kzt s ctx t y):∃ x,Kyf s n ctx t x y∧x.ffault=0∧x.fty=y.fty∧TyS s y.fty:=by
 obtain ⟨x,y',r⟩:=Kzn hs (tsz t) t ctx (Nat.le_refl _) g.ok g.cx g.bd
 have e:=r.im
 rw [g.im] at e
 cases e
 have hf:x.ffault=0:=by rw [← r.fa]; exact g.fa
 exact ⟨x,r,hf,r.ty.symm,by rw [r.ty]; exact (r.gd hf).1⟩
theorem Kzt.kid (g:Kzt s ctx t y) {i:Nat} {k:K02} (hk:t.fKids[i]?=some k):∃ yk,y.fkids[i]?=some yk∧Kzt s (Kyd t i y.fkids ++ ctx) k yk∧(Kyd t i y.fkids).length=Kqt t.fOp i:=by
 obtain ⟨x,r,hf,_⟩:=g.tell hs
 obtain ⟨yk,h1,h2⟩:=(r.kd hf).2 i k hk
 obtain ⟨hi,hg⟩:=List.getElem?_eq_some_iff.1 hk
 have hm:k ∈ t.fKids:=hg ▸ List.getElem_mem hi
 have h3:=Kto t.fKids t.fOp ctx.length 0 i hi (Krb g.ok).2
 rw [hg,Nat.zero_add] at h3
 have h4:=Ktk hm
 have h5:=Kqu t.fOp (i:Int)
 have h6:=g.bd
 have h7:=h2.ln
 refine ⟨yk,h1,⟨?_,?_,?_,h2.im,h2.fa⟩,h7⟩
 ·rw [List.length_append,h7,Nat.add_comm]; exact h3
 ·intro q hq
  rcases List.mem_append.1 hq with hq | hq
  ·exact h2.ty q hq
  ·exact g.cx q hq
 ·rw [List.length_append,h7]; omega
theorem Kzt.first (g:Kzt s ctx t y) (h0:0 < t.fKids.length) (ha:Kqt t.fOp ((0:Nat):Int)=0):∃ k0 y0 x0 l,t.fKids[0]?=some k0∧y.fkids=y0 :: l∧(Kyf s n ctx k0 x0 y0∧x0.ffault=0)∧Ko4 (s,ctx,k0)=some x0∧x0.fty=y0.fty∧TyS s y0.fty:=by
 have hk:t.fKids[0]?=some t.fKids[0]:=List.getElem?_eq_getElem h0
 obtain ⟨y0,h1,h2,h3⟩:=g.kid hs hk
 rw [ha] at h3
 rw [List.eq_nil_of_length_eq_zero h3,List.nil_append] at h2
 obtain ⟨x0,r,hf,h4,h5⟩:=h2.tell hs
 cases e:y.fkids with
 | nil=>rw [e] at h1; cases h1
 | cons z l =>
  rw [e] at h1
  cases h1
  exact ⟨_,_,x0,l,hk,rfl,⟨r,hf⟩,r.sp,h4,h5⟩
end
theorem Kzu {α:Type} {l:List α} {i:Nat} {x:α} (h:l[i]?=some x):idx l (i:Int)=some x:=by
 unfold idx
 rw [if_pos (by omega)]
 simpa using h
def Gv {α:Type} (x:Option α) (Q:α→Prop):Prop:=∃ a,x=some a∧Q a
theorem Gv.of {α:Type} {a:α} {Q:α→Prop} (h:Q a):Gv (some a) Q:=⟨a,rfl,h⟩
theorem Gv.eq {α:Type} {x:Option α} {a:α} {Q:α→Prop} (e:x=some a) (h:Q a):Gv x Q:=⟨a,e,h⟩
theorem Gv.bind {α β:Type} {x:Option α} {f:α→Option β} {Q:α→Prop} {R:β→Prop} (h:Gv x Q) (hf:∀ a,Q a→Gv (f a) R):Gv (x >>= f) R:=by
 obtain ⟨a,rfl,hq⟩:=h
 exact hf a hq
theorem Gv.ite {α:Type} {b:Bool} {x y:Option α} {Q:α→Prop} (h1:b=true→Gv x Q) (h2:b=false→Gv y Q):Gv (if b=true then x else y) Q:=by
 cases b
 ·exact h2 rfl
 ·exact h1 rfl
structure Kzv (c:K01):Prop where
 lo:0 ≤ c.fi
 hi:c.fi ≤ c.fb.length
 ln:c.fb.length ≤ 1048576
 by_:∀ v ∈ c.fb,0 ≤ v∧v ≤ 255
theorem Kzw (x:Int):0 ≤ Q2l .and .i64 x 255∧Q2l .and .i64 x 255 ≤ 255:=by
 have h:(BitVec.ofInt 64 x &&& BitVec.ofInt 64 255).toNat ≤ 255:=by
  rw [BitVec.toNat_and]
  exact Nat.le_trans Nat.and_le_right (by decide)
 have e:Q2l .and .i64 x 255=wr (((BitVec.ofInt 64 x &&& BitVec.ofInt 64 255).toNat:Nat):Int):=rfl
 rw [e,Ko9 (by omega) (by omega)]
 omega
theorem Kzx {α:Type} {l:List α} {i:Int} (h0:0 ≤ i) (h:i < l.length):∃ v,idx l i=some v∧v ∈ l:=by
 have hi:i.toNat < l.length:=by omega
 refine ⟨l[i.toNat],?_,List.getElem_mem hi⟩
 unfold idx
 rw [if_pos h0,List.getElem?_eq_getElem hi]
theorem Kzy (code:List Int) (hl:code.length ≤ 1048576):∀ (k i:Nat) (h:Int),i + k=code.length→Gv (K88 (code,h,(i:Int))) (fun _=>True):=by
 intro k
 induction k with
 | zero =>
  intro i h hi
  rw [K88.eq_def]
  simp only
  rw [Kod (by omega),if_neg (by decide),bs,if_neg (by decide)]
  exact .of trivial
 | succ k ih =>
  intro i h hi
  rw [K88.eq_def]
  simp only
  rw [Koc (by omega),if_pos rfl,bs]
  refine .ite (fun _=>?_) (fun _=>.of trivial)
  rw [Koa (by omega),bs,Kob (by omega)]
  exact ih (i + 1) _ (by omega)
theorem Kzz (code:List Int) (hl:code.length ≤ 1048576) (hb:∀ v ∈ code,0 ≤ v∧v ≤ 255):Gv (K8b code) Kzv:=by
 unfold K8b
 refine Gv.bind (Kzy code hl code.length 0 _ (by omega)) (fun h _=>.of ⟨Int.le_refl _,?_,hl,hb⟩)
 simp
theorem V00 {c:K01} (h:Kzv c):Gv (K8e c) (fun r=>(0 ≤ r.1∧r.1 ≤ 255)∧Kzv r.2):=by
 unfold K8e
 by_cases hi:c.fi < c.fb.length
 ·obtain ⟨v,e,hv⟩:=Kzx h.lo hi
  have h3:=h.ln
  have h4:=h.lo
  rw [decide_eq_true hi,if_pos rfl,e,bs,bs]
  refine .of ⟨Kzw _,⟨?_,?_,h.ln,h.by_⟩⟩
  ·simp only
   rw [Ko9 (by omega) (by omega)]; omega
  ·simp only
   rw [Ko9 (by omega) (by omega)]; omega
 ·rw [decide_eq_false hi,if_neg (by decide),bs]
  exact .of ⟨Kzw _,⟨h.lo,h.hi,h.ln,h.by_⟩⟩
def V01 (n:Int) (x:Int):Prop:=(0 < n→0 ≤ x∧x < n)∧(n ≤ 0→x=0)
theorem V02 {c:K01} (h:Kzv c) (n:Int):Gv (K8h (c,n)) (fun r=>V01 n r.1∧Kzv r.2):=by
 unfold K8h
 simp only
 refine .ite (fun hb=>?_) (fun hb=>?_)
 ·have hb:=of_decide_eq_true hb
  exact .of ⟨⟨fun h=>absurd h (by omega),fun _=>rfl⟩,h⟩
 have hb:=of_decide_eq_false hb
 have tm:∀ x:Int,0 ≤ x→V01 n (Int.tmod x n):=fun x hx=>⟨fun hn=>⟨Int.tmod_nonneg n hx,Int.tmod_lt_of_pos x hn⟩,fun hn=>absurd hn (by omega)⟩
 have ck:chk (n ≠ 0)=some ():=by unfold chk; rw [if_pos (by omega)]
 refine .ite (fun _=>?_) (fun _=>?_)
 ·refine Gv.bind (V00 h) ?_
  rintro ⟨x,c1⟩ ⟨hx,h1⟩
  simp only at hx h1 ⊢
  rw [ck,bs]
  exact .of ⟨tm _ hx.1,h1⟩
 ·refine Gv.bind (V00 h) ?_
  rintro ⟨x,c1⟩ ⟨hx,h1⟩
  simp only at hx h1 ⊢
  refine Gv.bind (V00 h1) ?_
  rintro ⟨y,c2⟩ ⟨hy,h2⟩
  simp only at hy h2 ⊢
  refine Gv.bind (V00 h2) ?_
  rintro ⟨z,c3⟩ ⟨hz,h3⟩
  simp only at hz h3 ⊢
  refine Gv.bind (V00 h3) ?_
  rintro ⟨w,c4⟩ ⟨hw,h4⟩
  simp only at hw h4 ⊢
  rw [ck,bs]
  refine .of ⟨?_,h4⟩
  simp only
  have e1:wr (x * 16777216)=x * 16777216:=Ko9 (by omega) (by omega)
  have e2:wr (y * 65536)=y * 65536:=Ko9 (by omega) (by omega)
  have e3:wr (z * 256)=z * 256:=Ko9 (by omega) (by omega)
  rw [e1,e2,e3,Ko9 (x:=x * 16777216 + y * 65536) (by omega) (by omega),Ko9 (x:=x * 16777216 + y * 65536 + z * 256) (by omega) (by omega),Ko9 (x:=x * 16777216 + y * 65536 + z * 256 + w) (by omega) (by omega)]
  exact tm _ (by omega)
theorem V03 {c:K01} (h:Kzv c) (n:Int):Gv (Kc6 (c,n)) (fun r=>Kzv r.2):=by
 unfold Kc6
 refine Gv.bind (V02 h n) ?_
 rintro ⟨x,c1⟩ ⟨_,h1⟩
 exact .of h1
theorem V04 {c:K01} (h:Kzv c) (l:List Int) (hl:0 < l.length):Gv (Kc9 (c,l)) (fun r=>r.1 ∈ l∧Kzv r.2):=by
 unfold Kc9
 refine Gv.bind (V02 h _) ?_
 rintro ⟨x,c1⟩ ⟨⟨hx,_⟩,h1⟩
 simp only at hx h1 ⊢
 have:=hx (by omega)
 obtain ⟨v,e,hv⟩:=Kzx this.1 this.2
 rw [e,bs]
 exact .of ⟨hv,h1⟩
theorem V05 {c:K01} (h:Kzv c):Gv (Kcj c) (fun r=>(-9223372036854775808 ≤ r.1∧r.1 ≤ 9223372036854775807)∧Kzv r.2):=by
 unfold Kcj
 refine Gv.bind (V04 h _ (by decide)) ?_
 rintro ⟨x,c1⟩ ⟨hx,h1⟩
 refine .of ⟨?_,h1⟩
 simp only [List.mem_cons,List.not_mem_nil,or_false] at hx
 simp only
 omega
def V06 (n a b:Nat):Int:=((min (a + b) (n + 1):Nat):Int)
def V07 (n a b:Nat):Int:=((min (a * b) (n + 1):Nat):Int)
def V08 (n:Nat) (bd:Bool) (a b:Nat):Bool:=(a == b) || (b == n + 1) || (bd && decide (a ≤ b))
def V09 (n:Nat) (bd:Bool):K00:=⟨((n + 2:Nat):Int),(List.range' 0 (n + 2)).flatMap (fun a=>(List.range' 0 (n + 2)).map (V06 n a)),(List.range' 0 (n + 2)).flatMap (fun a=>(List.range' 0 (n + 2)).map (V07 n a)),(List.range' 0 (n + 2)).flatMap (fun a=>(List.range' 0 (n + 2)).map (V08 n bd a))⟩
theorem V0a {a b:Nat} (h:a ≤ b):decide ((a:Int) ≤ (b:Int))=true:=decide_eq_true (by omega)
theorem V0b {a b:Nat} (h:b < a):decide ((a:Int) ≤ (b:Int))=false:=decide_eq_false (by omega)
theorem V0c (n a:Nat) (bd:Bool) (hn:n ≤ 14) (ha:a ≤ n + 1):∀ (k b:Nat) (P T:List Int) (B:List Bool),b + k=n + 2→P.length ≤ 1000000→T.length ≤ 1000000→B.length ≤ 1000000→P.length + k ≤ 1000000→T.length + k ≤ 1000000→B.length + k ≤ 1000000 →
  K8r ((n:Int),bd,(a:Int),P,T,B,(b:Int))=some (P ++ (List.range' b k).map (V06 n a),T ++ (List.range' b k).map (V07 n a),B ++ (List.range' b k).map (V08 n bd a)):=by
 intro k
 induction k with
 | zero =>
  intro b P T B hb _ _ _ _ _ _
  rw [K8r.eq_def]
  simp only
  rw [Kob (by omega),V0b (by omega),if_neg (by decide)]
  simp
 | succ k ih =>
  intro b P T B hb h1 h2 h3 h4 h5 h6
  have hab:a * b ≤ 16 * 16:=Nat.mul_le_mul (by omega) (by omega)
  have e2:wr ((a:Int) * (b:Int))=((a * b:Nat):Int):=by
   rw [← Int.natCast_mul,Ko9 (by omega) (by omega)]
  rw [K8r.eq_def]
  simp only
  rw [Kob (n:=n) (by omega),V0a (by omega),if_pos rfl,Ktc (by omega) (by omega),Ktd,bs,e2,Ktd,bs,Krc (by simp; omega),bs,Krc (by simp; omega),bs]
  have e3:((if ((a:Int) == (b:Int))=true then Qdq (B.length + [true].length) 1 >>= fun _=>some (B ++ [true]) else if ((b:Int) == ((n + 1:Nat):Int))=true then Qdq (B.length + [true].length) 1 >>= fun _=>some (B ++ [true]) else if bd=true then Qdq (B.length + [decide ((a:Int) ≤ (b:Int))].length) 1 >>= fun _=>some (B ++ [decide ((a:Int) ≤ (b:Int))]) else Qdq (B.length + [false].length) 1 >>= fun _=>some (B ++ [false])):Option (List Bool))=some (B ++ [V08 n bd a b]):=by
   have f:∀ x:Bool,Qdq (B.length + [x].length) 1=some ():=fun x=>Krc (by simp; omega)
   rw [f,f,f,bs,bs,bs,Koq,Koq]
   unfold V08
   by_cases q1:a=b
   ·rw [if_pos (by simp [q1])]; simp [q1]
   ·rw [if_neg (by simp [q1])]
    by_cases q2:b=n + 1
    ·rw [if_pos (by simp [q2])]; simp [q2]
    ·rw [if_neg (by simp [q2])]
     cases bd with
     | false=>simp [q1,q2]
     | true=>simp [q1,q2]
  rw [e3,bs,Kob (by omega),ih (b + 1) _ _ _ (by omega) (by simp; omega) (by simp; omega) (by simp; omega) (by simp; omega) (by simp; omega) (by simp; omega)]
  simp [List.range'_succ,V06,V07]
theorem V0d (n:Nat) (bd:Bool) (hn:n ≤ 14):∀ (k a:Nat) (P T:List Int) (B:List Bool),a + k=n + 2→P.length + k * 16 ≤ 10000→T.length + k * 16 ≤ 10000→B.length + k * 16 ≤ 10000 →
  K8v ((n:Int),bd,P,T,B,(a:Int))=some (P ++ (List.range' a k).flatMap (fun a=>(List.range' 0 (n + 2)).map (V06 n a)),T ++ (List.range' a k).flatMap (fun a=>(List.range' 0 (n + 2)).map (V07 n a)),B ++ (List.range' a k).flatMap (fun a=>(List.range' 0 (n + 2)).map (V08 n bd a))):=by
 intro k
 induction k with
 | zero =>
  intro a P T B hb _ _ _
  rw [K8v.eq_def]
  simp only
  rw [Kob (by omega),V0b (by omega),if_neg (by decide)]
  simp
 | succ k ih =>
  intro a P T B hb h1 h2 h3
  rw [K8v.eq_def]
  simp only
  rw [Kob (n:=n) (by omega),V0a (by omega),if_pos rfl,show (0:Int)=((0:Nat):Int) from rfl,V0c n a bd hn (by omega) (n + 2) 0 P T B (by omega) (by omega) (by omega) (by omega) (by omega) (by omega) (by omega),bs]
  simp only
  rw [Kob (by omega),ih (a + 1) _ _ _ (by omega) (by simp; omega) (by simp; omega) (by simp; omega)]
  simp [List.range'_succ,List.flatMap_cons]
theorem V0e (n:Nat) (bd:Bool) (h1:1 ≤ n) (h2:n ≤ 14):K8y ((n:Int),bd)=some (V09 n bd):=by
 unfold K8y
 simp only
 rw [sIn,bs,show inB (n:Int) 1 14=true from by unfold inB; rw [decide_eq_true (by omega),decide_eq_true (by omega)]; rfl,if_pos rfl,show (0:Int)=((0:Nat):Int) from rfl,V0d n bd h2 (n + 2) 0 [] [] [] (by omega) (by simp; omega) (by simp; omega) (by simp; omega),bs]
 simp only
 rw [show wr ((n:Int) + 2)=((n + 2:Nat):Int) from by rw [Ko9 (by omega) (by omega)]; omega]
 rfl
theorem V0f (n:Nat) (h1:1 ≤ n) (h2:n ≤ 14):K94 (n:Int)=some (V09 n false):=by unfold K94; rw [V0e n false h1 h2]; rfl
theorem V0g (n:Nat) (h1:1 ≤ n) (h2:n ≤ 14):K91 (n:Int)=some (V09 n true):=by unfold K91; rw [V0e n true h1 h2]; rfl
def V0h (n a:Nat):Nat:=(n + 1 - a) % (n + 1)
def V0i (n a b:Nat):Int:=(((n + 1 - max (V0h n a) (V0h n b)) % (n + 1):Nat):Int)
def V0j (n a b:Nat):Int:=(((n + 1 - min (V0h n a) (V0h n b)) % (n + 1):Nat):Int)
def V0k (n a b:Nat):Bool:=decide (V0h n a ≤ V0h n b)
def V0l (n:Nat):K00:=⟨((n + 1:Nat):Int),(List.range' 0 (n + 1)).flatMap (fun a=>(List.range' 0 (n + 1)).map (V0i n a)),(List.range' 0 (n + 1)).flatMap (fun a=>(List.range' 0 (n + 1)).map (V0j n a)),(List.range' 0 (n + 1)).flatMap (fun a=>(List.range' 0 (n + 1)).map (V0k n a))⟩
theorem V0m (a b:Nat):K97 ((a:Int),(b:Int))=some ((max a b:Nat):Int):=by
 unfold K97
 simp only
 by_cases h:b < a
 ·rw [decide_eq_true (by omega),if_pos rfl,Nat.max_eq_left (by omega)]
 ·rw [decide_eq_false (by omega),if_neg (by decide),Nat.max_eq_right (by omega)]
theorem V0n (a b:Nat):Int.tmod (a:Int) (b:Int)=((a % b:Nat):Int):=(Int.ofNat_tmod a b).symm
theorem V0o (n a:Nat) (hn:n ≤ 1000) (ha:a ≤ n + 1):Int.tmod (wr (((n + 1:Nat):Int) - (a:Int))) ((n + 1:Nat):Int)=(((n + 1 - a) % (n + 1):Nat):Int):=by
 rw [Ko9 (by omega) (by omega),show ((n + 1:Nat):Int) - (a:Int)=((n + 1 - a:Nat):Int) from by omega,V0n]
theorem V0p (n a:Nat):V0h n a ≤ n:=by
 have:=Nat.mod_lt (n + 1 - a) (show 0 < n + 1 by omega)
 unfold V0h
 omega
theorem V0q (n a:Nat) (hn:n ≤ 15) (ha:a ≤ n):∀ (k b:Nat) (P T:List Int) (B:List Bool),b + k=n + 1→P.length + k ≤ 1000000→T.length + k ≤ 1000000→B.length + k ≤ 1000000 →
  K9b ((n:Int),(a:Int),P,T,B,(b:Int))=some (P ++ (List.range' b k).map (V0i n a),T ++ (List.range' b k).map (V0j n a),B ++ (List.range' b k).map (V0k n a)):=by
 intro k
 induction k with
 | zero =>
  intro b P T B hb _ _ _
  rw [K9b.eq_def]
  simp only
  rw [V0b (by omega),if_neg (by decide)]
  simp
 | succ k ih =>
  intro b P T B hb h4 h5 h6
  have ck:chk (((n + 1:Nat):Int) ≠ 0)=some ():=by unfold chk; rw [if_pos (by omega)]
  have m1:=V0p n a
  have m2:=V0p n b
  have x1:Int.tmod (wr (((n + 1:Nat):Int) - (a:Int))) ((n + 1:Nat):Int)=((V0h n a:Nat):Int):=V0o n a (by omega) (by omega)
  have x2:Int.tmod (wr (((n + 1:Nat):Int) - (b:Int))) ((n + 1:Nat):Int)=((V0h n b:Nat):Int):=V0o n b (by omega) (by omega)
  rw [K9b.eq_def]
  simp only
  rw [V0a (by omega),if_pos rfl,Kob (n:=n) (by omega),ck,bs,bs,x1,x2,V0m,bs,bs,Ktd,bs,bs,V0o n _ (by omega) (by omega),V0o n _ (by omega) (by omega),Krc (by simp; omega),bs,Krc (by simp; omega),bs,Krc (by simp; omega),bs,Kob (by omega),ih (b + 1) _ _ _ (by omega) (by simp; omega) (by simp; omega) (by simp; omega)]
  simp [List.range'_succ,V0i,V0j,V0k]
theorem V0r (n:Nat) (hn:n ≤ 15):∀ (k a:Nat) (P T:List Int) (B:List Bool),a + k=n + 1→P.length + k * 16 ≤ 10000→T.length + k * 16 ≤ 10000→B.length + k * 16 ≤ 10000 →
  K9f ((n:Int),P,T,B,(a:Int))=some (P ++ (List.range' a k).flatMap (fun a=>(List.range' 0 (n + 1)).map (V0i n a)),T ++ (List.range' a k).flatMap (fun a=>(List.range' 0 (n + 1)).map (V0j n a)),B ++ (List.range' a k).flatMap (fun a=>(List.range' 0 (n + 1)).map (V0k n a))):=by
 intro k
 induction k with
 | zero =>
  intro a P T B hb _ _ _
  rw [K9f.eq_def]
  simp only
  rw [V0b (by omega),if_neg (by decide)]
  simp
 | succ k ih =>
  intro a P T B hb h1 h2 h3
  rw [K9f.eq_def]
  simp only
  rw [V0a (by omega),if_pos rfl,show (0:Int)=((0:Nat):Int) from rfl,V0q n a hn (by omega) (n + 1) 0 P T B (by omega) (by omega) (by omega) (by omega),bs]
  simp only
  rw [Kob (by omega),ih (a + 1) _ _ _ (by omega) (by simp; omega) (by simp; omega) (by simp; omega)]
  simp [List.range'_succ,List.flatMap_cons]
theorem V0s (n:Nat) (h1:1 ≤ n) (h2:n ≤ 15):K9i (n:Int)=some (V0l n):=by
 unfold K9i
 rw [sIn,bs,show inB (n:Int) 1 15=true from by unfold inB; rw [decide_eq_true (by omega),decide_eq_true (by omega)]; rfl,if_pos rfl,show (0:Int)=((0:Nat):Int) from rfl,V0r n h2 (n + 1) 0 [] [] [] (by omega) (by simp; omega) (by simp; omega) (by simp; omega),bs]
 simp only
 rw [Kob (by omega)]
 rfl
def V0t (n g:Nat):Nat:=if g=0 then 0 else if g=1 then 1 else if g ≤ n + 1 then (g - 1) / n else g / n
def V0u (n g:Nat):Nat:=if g < 2 then g else if g ≤ n + 1 then (g - 1) % n else g % n
def V0v (n x y:Nat):Nat:=if x * n + y=0 then 0 else if x * n + y=n + 1 then 1 else if x * n + y < n + 1 then x * n + y + 1 else x * n + y
theorem V0w (a b:Nat):Int.tdiv (a:Int) (b:Int)=((a / b:Nat):Int):=(Int.ofNat_tdiv a b).symm
theorem V0x (n g:Nat) (hn:1 ≤ n) (hn2:n ≤ 100) (hg:g ≤ 1000):Kb9 ((n:Int),(g:Int))=some ((V0t n g:Nat):Int):=by
 have ck:chk ((n:Int) ≠ 0)=some ():=by unfold chk; rw [if_pos (by omega)]
 have hd:∀ x,x ≤ 1000→x / n ≤ 1000:=fun x hx=>Nat.le_trans (Nat.div_le_self _ _) hx
 unfold Kb9 V0t
 simp only
 by_cases h0:g=0
 ·rw [if_pos (by simp [h0]),if_pos h0]; rfl
 rw [if_neg (by simpa using h0),if_neg h0]
 by_cases h1:g=1
 ·rw [if_pos (by simp [h1]),if_pos h1]; rfl
 rw [if_neg (by simp; omega),if_neg h1,Kob (by omega)]
 by_cases h2:g ≤ n + 1
 ·rw [V0a h2,if_pos rfl,if_pos h2,ck,bs,Ko9 (x:=(g:Int) - 1) (by omega) (by omega),show (g:Int) - 1=((g - 1:Nat):Int) from by omega,V0w]
  have:=hd (g - 1) (by omega)
  generalize (g - 1) / n=q at *
  rw [Ko9 (by omega) (by omega)]
 ·rw [V0b (by omega),if_neg (by decide),if_neg h2,ck,bs,V0w]
  have:=hd g hg
  generalize g / n=q at *
  rw [Ko9 (by omega) (by omega)]
theorem V0y (n g:Nat) (hn:1 ≤ n) (hn2:n ≤ 100) (hg:g ≤ 1000):Kbc ((n:Int),(g:Int))=some ((V0u n g:Nat):Int):=by
 have ck:chk ((n:Int) ≠ 0)=some ():=by unfold chk; rw [if_pos (by omega)]
 unfold Kbc V0u
 simp only
 by_cases h0:g < 2
 ·rw [decide_eq_true (by omega),if_pos rfl,if_pos h0]
 rw [decide_eq_false (by omega),if_neg (by decide),if_neg h0,Kob (by omega)]
 by_cases h2:g ≤ n + 1
 ·rw [V0a h2,if_pos rfl,if_pos h2,ck,bs,Ko9 (x:=(g:Int) - 1) (by omega) (by omega),show (g:Int) - 1=((g - 1:Nat):Int) from by omega,V0n]
 ·rw [V0b (by omega),if_neg (by decide),if_neg h2,ck,bs,V0n]
theorem V0z (n x y:Nat) (hn:n ≤ 100) (hx:x ≤ 100) (hy:y ≤ 100):Kbf ((n:Int),(x:Int),(y:Int))=some ((V0v n x y:Nat):Int):=by
 have hxn:x * n ≤ 100 * 100:=Nat.mul_le_mul hx hn
 have e:wr (wr ((x:Int) * (n:Int)) + (y:Int))=((x * n + y:Nat):Int):=by
  rw [← Int.natCast_mul,Ko9 (x:=((x * n:Nat):Int)) (by omega) (by omega),Ko9 (by omega) (by omega)]; omega
 unfold Kbf V0v
 simp only
 rw [e,Kob (n:=n) (by omega)]
 by_cases h0:x * n + y=0
 ·rw [if_pos (by rw [h0]; rfl),if_pos h0]; rfl
 rw [if_neg (by simp; omega),if_neg h0]
 by_cases h1:x * n + y=n + 1
 ·rw [if_pos (by rw [h1]; simp),if_pos h1]; rfl
 rw [if_neg (by simp; omega),if_neg h1]
 by_cases h2:x * n + y < n + 1
 ·rw [Koc h2,if_pos rfl,if_pos h2,Kob (by omega)]
 ·rw [Kod (by omega),if_neg (by decide),if_neg h2]
theorem V10 {m n g:Nat} (hm:2 ≤ m) (hn:2 ≤ n) (h:g < m * n):V0t n g < m:=by
 unfold V0t
 split
 ·omega
 split
 ·omega
 split
 ·refine Nat.div_lt_of_lt_mul ?_
  rw [Nat.mul_comm]; omega
 ·exact Nat.div_lt_of_lt_mul (by rw [Nat.mul_comm]; exact h)
theorem V11 {n g:Nat} (hn:2 ≤ n):V0u n g < n:=by
 unfold V0u
 split
 ·omega
 split
 ·exact Nat.mod_lt _ (by omega)
 ·exact Nat.mod_lt _ (by omega)
def V12 (a b:K00) (m n g h:Nat):Int:=((V0v n (pl a m (V0t n g) (V0t n h)) (pl b n (V0u n g) (V0u n h)):Nat):Int)
def V13 (a b:K00) (m n g h:Nat):Int:=((V0v n (ti a m (V0t n g) (V0t n h)) (ti b n (V0u n g) (V0u n h)):Nat):Int)
def V14 (a b:K00) (m n g h:Nat):Bool:=le a m (V0t n g) (V0t n h) && le b n (V0u n g) (V0u n h)
def V15 (a b:K00) (m n:Nat):K00:=⟨((m * n:Nat):Int),(List.range' 0 (m * n)).flatMap (fun g=>(List.range' 0 (m * n)).map (V12 a b m n g)),(List.range' 0 (m * n)).flatMap (fun g=>(List.range' 0 (m * n)).map (V13 a b m n g)),(List.range' 0 (m * n)).flatMap (fun g=>(List.range' 0 (m * n)).map (V14 a b m n g))⟩
theorem V16 {m n:Nat} (hm:2 ≤ m) (hn:2 ≤ n) (hmn:m * n ≤ 16):m ≤ 16∧n ≤ 16:=⟨Nat.le_trans (Nat.le_mul_of_pos_right m (by omega)) hmn,Nat.le_trans (Nat.le_mul_of_pos_left n (by omega)) hmn⟩
section
variable {a b:K00} {m n:Nat} (ta:Tab a m) (tb:Tab b n) (hm:2 ≤ m) (hn:2 ≤ n) (hmn:m * n ≤ 16)
include ta tb hm hn hmn
theorem V17 {g:Nat} (hg:g < m * n):∀ (k h:Nat) (P T:List Int) (B:List Bool),h + k=m * n→P.length + k ≤ 1000000→T.length + k ≤ 1000000→B.length + k ≤ 1000000 →
  Kbj (a,b,(g:Int),P,T,B,(h:Int))=some (P ++ (List.range' h k).map (V12 a b m n g),T ++ (List.range' h k).map (V13 a b m n g),B ++ (List.range' h k).map (V14 a b m n g)):=by
 obtain ⟨hm16,hn16⟩:=V16 hm hn hmn
 have hN:wr (a.fSize * b.fSize)=((m * n:Nat):Int):=by
  rw [ta.size,tb.size,← Int.natCast_mul,Ko9 (by omega) (by omega)]
 intro k
 induction k with
 | zero =>
  intro h P T B hb _ _ _
  rw [Kbj.eq_def]
  simp only
  rw [hN,Kod (by omega),if_neg (by decide)]
  simp
 | succ k ih =>
  intro h P T B hb h4 h5 h6
  have f1:=V10 hm hn hg
  have f2:=V10 hm hn (show h < m * n by omega)
  have s1:V0u n g < n:=V11 hn
  have s2:V0u n h < n:=V11 hn
  have p1:=Koh ta f1 f2
  have p2:=Koh tb s1 s2
  have t1:=Koi ta f1 f2
  have t2:=Koi tb s1 s2
  rw [Kbj.eq_def]
  simp only
  rw [hN,Koc (by omega),if_pos rfl,tb.size,V0x n g (by omega) (by omega) (by omega),bs,V0y n g (by omega) (by omega) (by omega),bs,V0x n h (by omega) (by omega) (by omega),bs,V0y n h (by omega) (by omega) (by omega),bs,
   Kom ta f1 f2,bs,Kom tb s1 s2,bs,V0z n _ _ (by omega) (by omega) (by omega),bs,Krc (by simp; omega),bs,Kon ta f1 f2,bs,Kon tb s1 s2,bs,V0z n _ _ (by omega) (by omega) (by omega),bs,Krc (by simp; omega),bs,sLe ta f1 f2,bs,sLe tb s1 s2,bs]
  have f:∀ x:Bool,Qdq (B.length + [x].length) 1=some ():=fun x=>Krc (by simp; omega)
  have e3:((if le a m (V0t n g) (V0t n h)=true then Qdq (B.length + [le b n (V0u n g) (V0u n h)].length) 1 >>= fun _=>some (B ++ [le b n (V0u n g) (V0u n h)]) else Qdq (B.length + [false].length) 1 >>= fun _=>some (B ++ [false])):Option (List Bool))=some (B ++ [V14 a b m n g h]):=by
   rw [f,f,bs,bs]
   unfold V14
   cases le a m (V0t n g) (V0t n h) <;> rfl
  rw [e3,bs,Kob (by omega),ih (h + 1) _ _ _ (by omega) (by simp; omega) (by simp; omega) (by simp; omega)]
  simp [List.range'_succ,V12,V13]
theorem V18:∀ (k g:Nat) (P T:List Int) (B:List Bool),g + k=m * n→P.length + k * 16 ≤ 10000→T.length + k * 16 ≤ 10000→B.length + k * 16 ≤ 10000 →
  Kbn (a,b,P,T,B,(g:Int))=some (P ++ (List.range' g k).flatMap (fun g=>(List.range' 0 (m * n)).map (V12 a b m n g)),T ++ (List.range' g k).flatMap (fun g=>(List.range' 0 (m * n)).map (V13 a b m n g)),B ++ (List.range' g k).flatMap (fun g=>(List.range' 0 (m * n)).map (V14 a b m n g))):=by
 have hN:wr (a.fSize * b.fSize)=((m * n:Nat):Int):=by
  rw [ta.size,tb.size,← Int.natCast_mul,Ko9 (by omega) (by omega)]
 intro k
 induction k with
 | zero =>
  intro g P T B hb _ _ _
  rw [Kbn.eq_def]
  simp only
  rw [hN,Kod (by omega),if_neg (by decide)]
  simp
 | succ k ih =>
  intro g P T B hb h1 h2 h3
  rw [Kbn.eq_def]
  simp only
  rw [hN,Koc (by omega),if_pos rfl,show (0:Int)=((0:Nat):Int) from rfl,V17 ta tb hm hn hmn (by omega) (m * n) 0 P T B (by omega) (by omega) (by omega) (by omega),bs]
  simp only
  rw [Kob (by omega),ih (g + 1) _ _ _ (by omega) (by simp; omega) (by simp; omega) (by simp; omega)]
  simp [List.range'_succ,List.flatMap_cons]
theorem V19 (sa:Ks1 a=true) (sb:Ks1 b=true):Kbq (a,b)=some (V15 a b m n,true):=by
 have hN:wr (a.fSize * b.fSize)=((m * n:Nat):Int):=by
  rw [ta.size,tb.size,← Int.natCast_mul,Ko9 (by omega) (by omega)]
 unfold Kbq Kb6
 simp only
 rw [Ks3,Ks3,bs,sa,if_pos rfl,bs,sb,if_pos rfl,bs,hN,decide_eq_true (by omega),bs,if_pos rfl,show (0:Int)=((0:Nat):Int) from rfl,V18 ta tb hm hn hmn (m * n) 0 [] [] [] (by omega) (by simp; omega) (by simp; omega) (by simp; omega),bs]
 rfl
end
def V1a:K00:=⟨3,[0,1,2,1,2,2,2,2,2],[0,0,0,0,1,2,0,2,2],[true,true,true,false,true,true,false,false,true]⟩
def V1b:K00:=⟨4,[0,1,2,3,1,2,3,3,2,3,3,3,3,3,3,3],[0,0,0,0,0,1,2,3,0,2,3,3,0,3,3,3],[true,true,true,true,false,true,true,true,false,false,true,true,false,false,false,true]⟩
def V1c:K00:=⟨5,[0,1,2,3,4,1,2,3,4,4,2,3,4,4,4,3,4,4,4,4,4,4,4,4,4],[0,0,0,0,0,0,1,2,3,4,0,2,4,4,4,0,3,4,4,4,0,4,4,4,4],[true,true,true,true,true,false,true,true,true,true,false,false,true,true,true,false,false,false,true,true,false,false,false,false,true]⟩
def V1d:K00:=⟨3,[0,1,2,1,2,2,2,2,2],[0,0,0,0,1,2,0,2,2],[true,false,true,false,true,true,false,false,true]⟩
def V1e:K00:=⟨4,[0,1,2,3,1,2,3,3,2,3,3,3,3,3,3,3],[0,0,0,0,0,1,2,3,0,2,3,3,0,3,3,3],[true,false,false,true,false,true,false,true,false,false,true,true,false,false,false,true]⟩
def V1f:K00:=⟨5,[0,1,2,3,4,1,2,3,4,4,2,3,4,4,4,3,4,4,4,4,4,4,4,4,4],[0,0,0,0,0,0,1,2,3,4,0,2,4,4,4,0,3,4,4,4,0,4,4,4,4],[true,false,false,false,true,false,true,false,false,true,false,false,true,false,true,false,false,false,true,true,false,false,false,false,true]⟩
def V1g:K00:=⟨2,[0,1,1,1],[0,0,0,1],[true,true,false,true]⟩
def V1h:K00:=⟨3,[0,1,2,1,1,1,2,1,2],[0,0,0,0,1,2,0,2,2],[true,true,true,false,true,false,false,true,true]⟩
def V1i:K00:=⟨4,[0,1,2,3,1,1,1,1,2,1,2,2,3,1,2,3],[0,0,0,0,0,1,2,3,0,2,2,3,0,3,3,3],[true,true,true,true,false,true,false,false,false,true,true,false,false,true,true,true]⟩
def V1j:K00:=⟨6,[0,1,2,3,4,5,1,5,1,5,5,5,2,1,2,1,5,5,3,5,1,4,4,5,4,5,5,4,4,5,5,5,5,5,5,5],[0,0,0,0,0,0,0,1,2,3,4,5,0,2,2,0,0,2,0,3,0,3,4,4,0,4,0,4,4,4,0,5,2,4,4,5],[true,false,true,false,true,true,false,true,false,false,false,true,false,false,true,false,false,true,false,true,false,true,true,true,false,false,false,false,true,true,false,false,false,false,false,true]⟩
def V1k:K00:=⟨9,[0,1,2,3,4,5,6,7,8,1,7,1,1,7,7,7,7,7,2,1,2,2,1,1,7,7,7,3,1,2,3,5,5,8,7,8,4,7,1,5,6,8,6,7,8,5,7,1,5,8,8,8,7,8,6,7,7,8,6,8,6,7,8,7,7,7,7,7,7,7,7,7,8,7,7,8,8,8,8,7,8],[0,0,0,0,0,0,0,0,0,0,1,2,3,4,5,6,7,8,0,2,2,3,0,3,0,2,3,0,3,3,3,0,3,0,3,3,0,4,0,0,4,4,6,6,6,0,5,3,3,4,5,6,8,8,0,6,0,0,6,6,6,6,6,0,7,2,3,6,8,6,7,8,0,8,3,3,6,8,6,8,8],[true,false,true,true,false,false,true,true,true,false,true,false,false,false,false,false,true,false,false,false,true,false,false,false,false,true,false,false,false,true,true,false,false,false,true,true,false,true,false,false,true,true,true,true,true,false,true,false,false,false,true,false,true,true,false,false,false,false,false,false,true,true,true,false,false,false,false,false,false,false,true,false,false,false,false,false,false,false,false,true,true]⟩
theorem V1l:V09 1 true=V1a:=by kernel_rfl
theorem V1m:Ks1 V1a=true:=by kernel_rfl
theorem V1n:V09 2 true=V1b:=by kernel_rfl
theorem V1o:Ks1 V1b=true:=by kernel_rfl
theorem V1p:V09 3 true=V1c:=by kernel_rfl
theorem V1q:Ks1 V1c=true:=by kernel_rfl
theorem V1r:V09 1 false=V1d:=by kernel_rfl
theorem V1s:Ks1 V1d=true:=by kernel_rfl
theorem V1t:V09 2 false=V1e:=by kernel_rfl
theorem V1u:Ks1 V1e=true:=by kernel_rfl
theorem V1v:V09 3 false=V1f:=by kernel_rfl
theorem V1w:Ks1 V1f=true:=by kernel_rfl
theorem V1x:V0l 1=V1g:=by kernel_rfl
theorem V1y:Ks1 V1g=true:=by kernel_rfl
theorem V1z:V0l 2=V1h:=by kernel_rfl
theorem V20:Ks1 V1h=true:=by kernel_rfl
theorem V21:V0l 3=V1i:=by kernel_rfl
theorem V22:Ks1 V1i=true:=by kernel_rfl
theorem V23:V15 V1d V1g 3 2=V1j:=by kernel_rfl
theorem V24:Ks1 V1j=true:=by kernel_rfl
theorem V25:V15 V1d V1h 3 3=V1k:=by kernel_rfl
theorem V26:Ks1 V1k=true:=by kernel_rfl
def V27:List K00:=[V1a,V1b,V1c,V1d,V1e,V1f,V1g,V1h,V1i,V1j,V1k]
theorem V28 {s:K00} (h:s ∈ V27):Ks1 s=true∧(2 ≤ s.fSize∧s.fSize ≤ 9)∧sms s ≤ 300:=by
 simp only [V27,List.mem_cons,List.not_mem_nil,or_false] at h
 rcases h with rfl | rfl | rfl | rfl | rfl | rfl | rfl | rfl | rfl | rfl | rfl
 ·exact ⟨V1m,by decide,by decide⟩
 ·exact ⟨V1o,by decide,by decide⟩
 ·exact ⟨V1q,by decide,by decide⟩
 ·exact ⟨V1s,by decide,by decide⟩
 ·exact ⟨V1u,by decide,by decide⟩
 ·exact ⟨V1w,by decide,by decide⟩
 ·exact ⟨V1y,by decide,by decide⟩
 ·exact ⟨V20,by decide,by decide⟩
 ·exact ⟨V22,by decide,by decide⟩
 ·exact ⟨V24,by decide,by decide⟩
 ·exact ⟨V26,by decide,by decide⟩
theorem V29 (x:Int) (h:V01 3 x):x=0∨x=1∨x=2:=by
 have:=h.1 (by decide)
 omega
theorem V2a {x:Int} (h:V01 3 x):Gv (K91 (wr (1 + x))) (fun s=>s ∈ V27):=by
 rcases V29 x h with rfl | rfl | rfl
 ·exact .eq (V0g 1 (by decide) (by decide)) (by rw [V1l]; simp [V27])
 ·exact .eq (V0g 2 (by decide) (by decide)) (by rw [V1n]; simp [V27])
 ·exact .eq (V0g 3 (by decide) (by decide)) (by rw [V1p]; simp [V27])
theorem V2b {x:Int} (h:V01 3 x):Gv (K94 (wr (1 + x))) (fun s=>s ∈ V27):=by
 rcases V29 x h with rfl | rfl | rfl
 ·exact .eq (V0f 1 (by decide) (by decide)) (by rw [V1r]; simp [V27])
 ·exact .eq (V0f 2 (by decide) (by decide)) (by rw [V1t]; simp [V27])
 ·exact .eq (V0f 3 (by decide) (by decide)) (by rw [V1v]; simp [V27])
theorem V2c {x:Int} (h:V01 3 x):Gv (K9i (wr (1 + x))) (fun s=>s ∈ V27):=by
 rcases V29 x h with rfl | rfl | rfl
 ·exact .eq (V0s 1 (by decide) (by decide)) (by rw [V1x]; simp [V27])
 ·exact .eq (V0s 2 (by decide) (by decide)) (by rw [V1z]; simp [V27])
 ·exact .eq (V0s 3 (by decide) (by decide)) (by rw [V21]; simp [V27])
theorem V2d {c:K01} (h:Kzv c):Gv (Kbt c) (fun r=>r.1 ∈ V27∧Kzv r.2):=by
 unfold Kbt
 refine Gv.bind (V02 h 3) ?_
 rintro ⟨x,c1⟩ ⟨hx,h1⟩
 simp only at hx h1 ⊢
 refine Gv.bind (V2a hx) (fun s0 hs0=>?_)
 refine Gv.bind (V02 h1 8) ?_
 rintro ⟨y,c2⟩ ⟨hy,h2⟩
 simp only at hy h2 ⊢
 have fin:∀ (R:Int × List Int × List Int × List Bool × List Int × Int × Int→Prop),True:=fun _=>trivial
 refine Gv.bind (Q:=fun _=>True) (.ite (fun _=>.of trivial) (fun _=>Gv.bind (Q:=fun _=>True) (.ite (fun _=>.of trivial) (fun _=>.of trivial)) (fun _ _=>.of trivial))) (fun j5 _=>?_)
 refine Gv.bind (Q:=fun r:Int × List Int × List Int × List Bool × List Int × Int × Int=>(⟨r.1,r.2.1,r.2.2.1,r.2.2.2.1⟩:K00) ∈ V27∧Kzv ⟨r.2.2.2.2.1,r.2.2.2.2.2.1,r.2.2.2.2.2.2⟩) (.ite (fun _=>?_) (fun _=>?_)) ?_
 ·exact Gv.bind (V2b hx) (fun s hs=>.of ⟨hs,h2⟩)
 ·refine Gv.bind (Q:=fun _=>True) (.ite (fun _=>.of trivial) (fun _=>.of trivial)) (fun j9 _=>?_)
  refine Gv.bind (Q:=fun r:Int × List Int × List Int × List Bool × List Int × Int × Int=>(⟨r.1,r.2.1,r.2.2.1,r.2.2.2.1⟩:K00) ∈ V27∧Kzv ⟨r.2.2.2.2.1,r.2.2.2.2.2.1,r.2.2.2.2.2.2⟩) (.ite (fun _=>?_) (fun _=>?_)) (by rintro ⟨a,b,d,e,f,g,i⟩ q; exact .of q)
  ·exact Gv.bind (V2c hx) (fun s hs=>.of ⟨hs,h2⟩)
  ·refine Gv.bind (Q:=fun r:Int × List Int × List Int × List Bool × List Int × Int × Int=>(⟨r.1,r.2.1,r.2.2.1,r.2.2.2.1⟩:K00) ∈ V27∧Kzv ⟨r.2.2.2.2.1,r.2.2.2.2.2.1,r.2.2.2.2.2.2⟩) (.ite (fun _=>?_) (fun _=>.of ⟨hs0,h2⟩)) (by rintro ⟨a,b,d,e,f,g,i⟩ q; exact .of q)
   rw [show (1:Int)=((1:Nat):Int) from rfl,V0f 1 (by decide) (by decide),V1r,bs]
   refine Gv.bind (V02 h2 2) ?_
   rintro ⟨z,c3⟩ ⟨hz,h3⟩
   simp only at hz h3 ⊢
   have hz:=hz.1 (by decide)
   have t3:Tab V1d 3:=Ks2 V1s
   rcases (show z=0∨z=1 by omega) with rfl | rfl
   ·have e:wr (((1:Nat):Int) + 0)=((1:Nat):Int):=rfl
    rw [e,V0s 1 (by decide) (by decide),V1x,bs,V19 (m:=3) (n:=2) t3 (Ks2 V1y) (by decide) (by decide) (by decide) V1s V1y,V23,bs]
    exact .of ⟨by simp [V27],h3⟩
   ·have e:wr (((1:Nat):Int) + 1)=((2:Nat):Int):=rfl
    rw [e,V0s 2 (by decide) (by decide),V1z,bs,V19 (m:=3) (n:=3) t3 (Ks2 V20) (by decide) (by decide) (by decide) V1s V20,V25,bs]
    exact .of ⟨by simp [V27],h3⟩
 ·rintro ⟨a,b,d,e,f,g,i⟩ q
  exact .of q
inductive Cl:Ty→K02→Prop where
 | num (N:Int) (h:0 ≤ N∧N ≤ 2):Cl .num ⟨1,N,[],[]⟩
 | pair {a b:Ty} {k m:K02} (h1:Cl a k) (h2:Cl b m):Cl (.bin 1 a b) ⟨4,0,[],[k,m]⟩
 | left {a b:Ty} {k:K02} (h1:Cl a k):Cl (.bin 2 a b) ⟨6,0,b.code,[k]⟩
 | right {a b:Ty} {k:K02} (h1:Cl b k):Cl (.bin 2 a b) ⟨7,0,a.code,[k]⟩
 | fn {c:Int} {a b:Ty} {k:K02} (hc:Kph c=true) (h1:Cl b k):Cl (.bin c a b) ⟨9,Kq4 c,a.code,[k]⟩
 | box {c:Int} {a:Ty} {k:K02} (hc:Kpi c=true) (h1:Cl a k):Cl (.un c a) ⟨11,Kq4 c,[],[k]⟩
theorem V2e (T:Ty):∀ v,T.ok→T.dat→vB T v=true→Cl T v:=by
 induction T with
 | num =>
  intro v _ _ h
  obtain ⟨N,rfl,hN⟩:=Kup h
  exact .num N hN
 | bin c a b iha ihb =>
  intro v ho hd h
  rcases Ktp ho.1 with ⟨rfl,_⟩ | ⟨rfl,_⟩ | ⟨h0,_,h2,_⟩
  ·obtain ⟨k,m,rfl,q1,q2⟩:=Kuq h
   exact .pair (iha k ho.2.1 hd.2.1 q1) (ihb m ho.2.2 hd.2.2 q2)
  ·rcases Kur h with ⟨k,rfl,q⟩ | ⟨k,rfl,q⟩
   ·exact .left (iha k ho.2.1 hd.2.1 q)
   ·exact .right (ihb k ho.2.2 hd.2.2 q)
  ·exfalso
   have:=hd.1
   omega
 | un c a ih =>
  intro v ho hd h
  obtain ⟨k,rfl,q⟩:=Kus h
  exact .box (Ktq ho.1).2.1 (ih k ho.2 hd q)
theorem V2f (q ns:List Int) (h:q.length ≤ 40):Ko1 (q,ns)=some ⟨q,ns,0,[]⟩:=by
 unfold Ko1
 simp only
 rw [decide_eq_false (by omega),if_neg (by decide)]
theorem V2g {s:K00} {c:List (List Int)} {t k:K02} {i:Nat} {x:Kns} (hk:t.fKids[i]?=some k) (hx:Ko4 (s,c,k)=some x) (hp:x.fpath.length ≤ 1000000) :
  ∃ y,Ko6 (s,c,t,(i:Int))=some y∧y.ffault=x.ffault∧y.fty=x.fty∧y.fneeds=x.fneeds∧y.fpath.length ≤ x.fpath.length + 1:=by
 rw [Ko6.eq_def]
 simp only
 rw [Kzu hk,bs,hx,bs]
 by_cases hf:x.ffault=0
 ·rw [if_neg (by simp [hf]),bs]
  exact ⟨_,rfl,rfl,rfl,rfl,by simp⟩
 ·rw [if_pos (bne_iff_ne.2 hf),Krc (by simp; omega),bs,bs]
  exact ⟨_,rfl,rfl,rfl,rfl,by simp⟩
section
variable {s:K00} {n:Nat} (hs:Kv6 s n)
include hs
theorem V2h (m:Nat):Kvh n (List.replicate m 0):=fun x hx=>by
 rw [(List.mem_replicate.1 hx).2]
 exact Nat.lt_of_lt_of_le (by decide) hs.tab.lo
theorem V2i (m:Nat):Kve s n (List.replicate m 0) (List.replicate m 0)=List.replicate m 0:=by
 have:=Kvo hs (a:=List.replicate m 0) (V2h hs m)
 rw [List.length_replicate] at this
 exact this
theorem V2j {g:Nat} (hg:g < n) (m:Nat):Kvf s n g (List.replicate m 0)=List.replicate m 0:=by
 have h:=hs.one g hg
 unfold Kos at h
 simp only [Bool.and_eq_true,beq_iff_eq] at h
 unfold Kvf
 rw [List.map_replicate,h.1.2]
theorem V2k {c:Int} (h:Kph c=true) (hg:Kq5 s.fSize true c=true):∃ g:Nat,g < n∧Kq4 c=(g:Int)∧wr (3 + Kq4 c)=c:=by
 have hb:=hs.tab.hi
 have hc:(3 ≤ c∧c ≤ 18)∨c=35:=by
  unfold Kph inB at h
  simp at h
  omega
 rcases hc with hc | rfl
 ·have:=(Kwz hs hc).1 hg
  refine ⟨(c - 3).toNat,by omega,?_,?_⟩
  ·unfold Kq4; rw [if_neg (by omega),if_neg (by omega)]; omega
  ·unfold Kq4; rw [if_neg (by omega),if_neg (by omega),Ko9 (by omega) (by omega)]; omega
 ·rw [Kwx (.inl rfl)] at hg; cases hg
theorem V2l {c:Int} (h:Kpi c=true) (hg:Kq5 s.fSize true c=true):∃ g:Nat,g < n∧Kq4 c=(g:Int)∧wr (19 + Kq4 c)=c:=by
 have hb:=hs.tab.hi
 have hc:(19 ≤ c∧c ≤ 34)∨c=36:=by
  unfold Kpi inB at h
  simp at h
  omega
 rcases hc with hc | rfl
 ·have:=(Kx0 hs hc).1 hg
  refine ⟨(c - 19).toNat,by omega,?_,?_⟩
  ·unfold Kq4; rw [if_neg (by omega),if_pos (by omega)]; omega
  ·unfold Kq4; rw [if_neg (by omega),if_pos (by omega),Ko9 (by omega) (by omega)]; omega
 ·rw [Kwx (.inr rfl)] at hg; cases hg
structure ClT (s:K00) (n:Nat) (T:Ty) (ctx:List (List Int)) (v:K02) (x:Kns):Prop where
 sp:Ko4 (s,ctx,v)=some x
 pl:x.fpath.length ≤ T.code.length
 gd:x.ffault=0→x.fty=T.code∧x.fneeds=Kv1 (List.replicate ctx.length 0)
 no:((∀ g,g < n→le s n 0 g=true)∨T.dat)→x.ffault=0
theorem V2m {T:Ty} {v:K02} (h:Cl T v):T.ok→T.code.length ≤ 40→T.code.all (Kq5 s.fSize true)=true→∀ ctx:List (List Int),ctx.length + T.code.length ≤ 1000→∃ x,ClT s n T ctx v x:=by
 induction h with
 | num N hN =>
  intro _ _ _ ctx hc
  refine ⟨⟨[0],Kv1 (List.replicate ctx.length 0),0,[]⟩,?_,by simp,fun _=>⟨rfl,rfl⟩,fun _=>rfl⟩
  rw [Ko4.eq_def]
  simp [Kw3 ctx.length (by omega)]
 | @pair a b k m h1 h2 ih1 ih2 =>
  intro ho hl hg ctx hc
  rw [Ty.code,List.length_cons,List.length_append] at hl hc
  rw [Ty.code,List.all_cons,List.all_append,Bool.and_eq_true,Bool.and_eq_true] at hg
  obtain ⟨x0,a1,a2,a3,a4⟩:=ih1 ho.2.1 (by omega) hg.2.1 ctx (by omega)
  obtain ⟨x1,b1,b2,b3,b4⟩:=ih2 ho.2.2 (by omega) hg.2.2 ctx (by omega)
  obtain ⟨y0,o0,p1,p2,p3,p4⟩:=V2g (t:=⟨4,0,[],[k,m]⟩) (i:=0) rfl a1 (by omega)
  obtain ⟨y1,o1,q1,q2,q3,q4⟩:=V2g (t:=⟨4,0,[],[k,m]⟩) (i:=1) rfl b1 (by omega)
  have o0:Ko6 (s,ctx,⟨4,0,[],[k,m]⟩,0)=some y0:=o0
  have o1:Ko6 (s,ctx,⟨4,0,[],[k,m]⟩,1)=some y1:=o1
  have hlen:(Ty.bin 1 a b).code.length=a.code.length + b.code.length + 1:=by rw [Ty.code,List.length_cons,List.length_append]
  by_cases f0:y0.ffault=0
  rotate_left
  ·refine ⟨y0,?_,by omega,fun h=>absurd h f0,fun h=>?_⟩
   ·rw [Ko4.eq_def]; simp [o0,f0]
   ·rw [p1]; exact a4 (h.imp (fun h=>h) (fun h=>h.2.1))
  by_cases f1:y1.ffault=0
  rotate_left
  ·refine ⟨y1,?_,by omega,fun h=>absurd h f1,fun h=>?_⟩
   ·rw [Ko4.eq_def]; simp [o0,f0,o1,f1]
   ·rw [q1]; exact b4 (h.imp (fun h=>h) (fun h=>h.2.2))
  obtain ⟨t0,n0⟩:=a3 (by rw [← p1]; exact f0)
  obtain ⟨t1,n1⟩:=b3 (by rw [← q1]; exact f1)
  refine ⟨⟨1 :: (a.code ++ b.code),Kv1 (List.replicate ctx.length 0),0,[]⟩,?_,by simp,fun _=>⟨rfl,rfl⟩,fun _=>rfl⟩
  have g2:Kc0 (1,[a.code,b.code])=some (1 :: (a.code ++ b.code)):=by rw [Kw6 _ _ (by simp) (by simp; omega)]; simp
  have sm:=Kvr hs (List.replicate ctx.length 0) (List.replicate ctx.length 0) (V2h hs _) (V2h hs _) (by simp; omega) rfl
  rw [V2i hs] at sm
  rw [Ko4.eq_def]
  simp [o0,f0,o1,f1,p2,q2,p3,q3,t0,t1,n0,n1,g2,sm,V2f (1 :: (a.code ++ b.code)) _ (by simp; omega)]
 | @left a b k h1 ih1 =>
  intro ho hl hg ctx hc
  rw [Ty.code,List.length_cons,List.length_append] at hl hc
  rw [Ty.code,List.all_cons,List.all_append,Bool.and_eq_true,Bool.and_eq_true] at hg
  obtain ⟨x0,a1,a2,a3,a4⟩:=ih1 ho.2.1 (by omega) hg.2.1 ctx (by omega)
  obtain ⟨y0,o0,p1,p2,p3,p4⟩:=V2g (t:=⟨6,0,b.code,[k]⟩) (i:=0) rfl a1 (by omega)
  have o0:Ko6 (s,ctx,⟨6,0,b.code,[k]⟩,0)=some y0:=o0
  have hlen:(Ty.bin 2 a b).code.length=a.code.length + b.code.length + 1:=by rw [Ty.code,List.length_cons,List.length_append]
  by_cases f0:y0.ffault=0
  rotate_left
  ·refine ⟨y0,?_,by omega,fun h=>absurd h f0,fun h=>?_⟩
   ·rw [Ko4.eq_def]; simp [o0,f0]
   ·rw [p1]; exact a4 (h.imp (fun h=>h) (fun h=>h.2.1))
  obtain ⟨t0,n0⟩:=a3 (by rw [← p1]; exact f0)
  refine ⟨⟨2 :: (a.code ++ b.code),Kv1 (List.replicate ctx.length 0),0,[]⟩,?_,by simp,fun _=>⟨rfl,rfl⟩,fun _=>rfl⟩
  have g2:Kc0 (2,[a.code,b.code])=some (2 :: (a.code ++ b.code)):=by rw [Kw6 _ _ (by simp) (by simp; omega)]; simp
  rw [Ko4.eq_def]
  simp [o0,f0,p2,p3,t0,n0,g2,V2f (2 :: (a.code ++ b.code)) _ (by simp; omega)]
 | @right a b k h1 ih1 =>
  intro ho hl hg ctx hc
  rw [Ty.code,List.length_cons,List.length_append] at hl hc
  rw [Ty.code,List.all_cons,List.all_append,Bool.and_eq_true,Bool.and_eq_true] at hg
  obtain ⟨x0,a1,a2,a3,a4⟩:=ih1 ho.2.2 (by omega) hg.2.2 ctx (by omega)
  obtain ⟨y0,o0,p1,p2,p3,p4⟩:=V2g (t:=⟨7,0,a.code,[k]⟩) (i:=0) rfl a1 (by omega)
  have o0:Ko6 (s,ctx,⟨7,0,a.code,[k]⟩,0)=some y0:=o0
  have hlen:(Ty.bin 2 a b).code.length=a.code.length + b.code.length + 1:=by rw [Ty.code,List.length_cons,List.length_append]
  by_cases f0:y0.ffault=0
  rotate_left
  ·refine ⟨y0,?_,by omega,fun h=>absurd h f0,fun h=>?_⟩
   ·rw [Ko4.eq_def]; simp [o0,f0]
   ·rw [p1]; exact a4 (h.imp (fun h=>h) (fun h=>h.2.2))
  obtain ⟨t0,n0⟩:=a3 (by rw [← p1]; exact f0)
  refine ⟨⟨2 :: (a.code ++ b.code),Kv1 (List.replicate ctx.length 0),0,[]⟩,?_,by simp,fun _=>⟨rfl,rfl⟩,fun _=>rfl⟩
  have g2:Kc0 (2,[a.code,b.code])=some (2 :: (a.code ++ b.code)):=by rw [Kw6 _ _ (by simp) (by simp; omega)]; simp
  rw [Ko4.eq_def]
  simp [o0,f0,p2,p3,t0,n0,g2,V2f (2 :: (a.code ++ b.code)) _ (by simp; omega)]
 | @fn c a b k hcc h1 ih1 =>
  intro ho hl hg ctx hc
  rw [Ty.code,List.length_cons,List.length_append] at hl hc
  rw [Ty.code,List.all_cons,List.all_append,Bool.and_eq_true,Bool.and_eq_true] at hg
  obtain ⟨g,gl,ge,gw⟩:=V2k hs hcc hg.1
  obtain ⟨x0,a1,a2,a3,a4⟩:=ih1 ho.2.2 (by omega) hg.2.2 (a.code :: ctx) (by simp; omega)
  obtain ⟨y0,o0,p1,p2,p3,p4⟩:=V2g (t:=⟨9,Kq4 c,a.code,[k]⟩) (i:=0) rfl a1 (by omega)
  have o0:Ko6 (s,a.code :: ctx,⟨9,Kq4 c,a.code,[k]⟩,0)=some y0:=o0
  have hlen:(Ty.bin c a b).code.length=a.code.length + b.code.length + 1:=by rw [Ty.code,List.length_cons,List.length_append]
  have w:Knx (ctx,[a.code])=some (a.code :: ctx):=Kw4 ctx [a.code] (by simp; omega)
  by_cases f0:y0.ffault=0
  rotate_left
  ·refine ⟨y0,?_,by omega,fun h=>absurd h f0,fun h=>?_⟩
   ·rw [Ko4.eq_def]; simp [w,o0,f0]
   ·rw [p1]; exact a4 (h.imp (fun h=>h) (fun h=>h.2.2))
  obtain ⟨t0,n0⟩:=a3 (by rw [← p1]; exact f0)
  have n1:y0.fneeds=0 :: Kv1 (List.replicate ctx.length 0):=by rw [p3,n0]; simp [Kv1,List.replicate_succ]
  have i0:idx (0 :: Kv1 (List.replicate ctx.length 0)) 0=some 0:=rfl
  have l0:Ka2 (s,0,Kq4 c)=some (le s n 0 g):=by rw [ge]; exact sLe hs.tab (a:=0) (Nat.lt_of_lt_of_le (by decide) hs.tab.lo) gl
  cases hle:le s n 0 g with
  | false =>
   refine ⟨⟨[],[],9,[]⟩,?_,by simp,fun h=>absurd h (by decide),fun h=>?_⟩
   ·rw [Ko4.eq_def]; simp [w,o0,f0,n1,i0,l0,hle,Kny]
   ·rcases h with h | h
    ·rw [h g gl] at hle; cases hle
    ·have:=h.1
     unfold Kph inB at hcc
     simp at hcc
     omega
  | true =>
   refine ⟨⟨c :: (a.code ++ b.code),Kv1 (List.replicate ctx.length 0),0,[]⟩,?_,by simp,fun _=>⟨rfl,rfl⟩,fun _=>rfl⟩
   have g2:Kc0 (c,[a.code,b.code])=some (c :: (a.code ++ b.code)):=by rw [Kw6 _ _ (by simp) (by simp; omega)]; simp
   have ct:cut (0 :: Kv1 (List.replicate ctx.length 0)) (some 1) none none=some (Kv1 (List.replicate ctx.length 0)):=Ktn _ _
   rw [Ko4.eq_def]
   simp [w,o0,f0,n1,i0,l0,hle,p2,t0,gw,g2,ct,Krm (Kv1 (List.replicate ctx.length 0)) (by rw [Kv2]; simp; omega),V2f (c :: (a.code ++ b.code)) _ (by simp; omega)]
 | @box c a k hcc h1 ih1 =>
  intro ho hl hg ctx hc
  rw [Ty.code,List.length_cons] at hl hc
  rw [Ty.code,List.all_cons,Bool.and_eq_true] at hg
  obtain ⟨g,gl,ge,gw⟩:=V2l hs hcc hg.1
  obtain ⟨x0,a1,a2,a3,a4⟩:=ih1 ho.2 (by omega) hg.2 ctx (by omega)
  obtain ⟨y0,o0,p1,p2,p3,p4⟩:=V2g (t:=⟨11,Kq4 c,[],[k]⟩) (i:=0) rfl a1 (by omega)
  have o0:Ko6 (s,ctx,⟨11,Kq4 c,[],[k]⟩,0)=some y0:=o0
  have hlen:(Ty.un c a).code.length=a.code.length + 1:=by rw [Ty.code,List.length_cons]
  by_cases f0:y0.ffault=0
  rotate_left
  ·refine ⟨y0,?_,by omega,fun h=>absurd h f0,fun h=>?_⟩
   ·rw [Ko4.eq_def]; simp [o0,f0]
   ·rw [p1]; exact a4 (h.imp (fun h=>h) (fun h=>h))
  obtain ⟨t0,n0⟩:=a3 (by rw [← p1]; exact f0)
  refine ⟨⟨c :: a.code,Kv1 (List.replicate ctx.length 0),0,[]⟩,?_,by simp,fun _=>⟨rfl,rfl⟩,fun _=>rfl⟩
  have g2:Kc0 (c,[a.code])=some (c :: a.code):=by rw [Kw6 _ _ (by simp) (by simp; omega)]; simp
  have sm:=Kvq hs g gl (List.replicate ctx.length 0) (List.replicate ctx.length 0) (V2h hs _) (V2h hs _) (by simp; omega) rfl
  rw [V2j hs gl,V2i hs] at sm
  rw [← ge] at sm
  rw [Ko4.eq_def]
  simp [o0,f0,p2,p3,t0,n0,gw,g2,Kw3 ctx.length (by omega),sm,V2f (c :: a.code) _ (by simp; omega)]
end
theorem V2n (c:Int) (a:List Int) (h:a.length ≤ 1000000):Kc0 (c,[a])=some (c :: a):=by
 rw [Kw6 c [a] (by simp) (by simp; omega)]; simp
theorem V2o (c:Int) (a b:List Int) (h:a.length + b.length ≤ 1000000):Kc0 (c,[a,b])=some (c :: (a ++ b)):=by
 rw [Kw6 c [a,b] (by simp) (by simp; omega)]; simp
theorem V2p (d:Nat) (hd:d ≤ 10):2 ^ d ≤ 1024:=Nat.le_trans (Nat.pow_le_pow_right (by decide) hd) (by decide)
theorem V2q {s:K00}:∀ (d:Nat) (c:K01) (data:Bool),d ≤ 8→Kzv c→Gv (Kc3 (c,s,(d:Int),data)) (fun r=>(1 ≤ r.1.length∧r.1.length + 1 ≤ 2 ^ (d + 1))∧Kzv r.2):=by
 intro d
 induction d with
 | zero =>
  intro c data _ h
  rw [Kc3.eq_def]
  simp only
  refine Gv.bind (V02 h 6) ?_
  rintro ⟨x,c1⟩ ⟨hx,h1⟩
  simp only at hx h1 ⊢
  rw [show decide (((0:Nat):Int) ≤ 0)=true from rfl,if_pos rfl,bs,if_pos rfl]
  exact .of ⟨⟨by simp,by simp⟩,h1⟩
 | succ d ih =>
  intro c data hd h
  have hp:=V2p (d + 1) (by omega)
  have hpe:2 ^ (d + 1 + 1)=2 ^ (d + 1) + 2 ^ (d + 1):=by rw [Nat.pow_succ]; omega
  have hp1:2 ≤ 2 ^ (d + 1):=Nat.le_trans (by decide) (Nat.pow_le_pow_right (n:=2) (by decide) (show 1 ≤ d + 1 by omega))
  have wd:wr (((d + 1:Nat):Int) - 1)=((d:Nat):Int):=by rw [Ko9 (by omega) (by omega)]; omega
  rw [Kc3.eq_def]
  simp only
  refine Gv.bind (V02 h 6) ?_
  rintro ⟨x,c1⟩ ⟨hx,h1⟩
  simp only at hx h1 ⊢
  rw [show decide (((d + 1:Nat):Int) ≤ 0)=false from decide_eq_false (by omega),if_neg (by decide),bs]
  refine .ite (fun _=>.of ⟨⟨by simp,by simp; omega⟩,h1⟩) (fun _=>?_)
  rw [wd]
  refine Gv.bind (ih c1 data (by omega) h1) ?_
  rintro ⟨a,c2⟩ ⟨ha,h2⟩
  simp only at ha h2 ⊢
  refine .ite (fun _=>?_) (fun _=>?_)
  ·refine Gv.bind (V02 h2 _) ?_
   rintro ⟨y,c3⟩ ⟨hy,h3⟩
   simp only at hy h3 ⊢
   rw [V2n _ _ (by omega),bs]
   exact .of ⟨by simp; omega,h3⟩
  refine Gv.bind (Q:=fun _=>True) (.ite (fun _=>.of trivial) (fun _=>.of trivial)) (fun v _=>?_)
  refine .ite (fun _=>?_) (fun _=>.ite (fun _=>?_) (fun _=>?_))
  ·refine Gv.bind (V02 h2 _) ?_
   rintro ⟨y,c3⟩ ⟨hy,h3⟩
   simp only at hy h3 ⊢
   refine Gv.bind (ih c3 data (by omega) h3) ?_
   rintro ⟨b,c4⟩ ⟨hb,h4⟩
   simp only at hb h4 ⊢
   rw [V2o _ _ _ (by omega),bs]
   exact .of ⟨by simp; omega,h4⟩
  ·refine Gv.bind (ih c2 data (by omega) h2) ?_
   rintro ⟨b,c4⟩ ⟨hb,h4⟩
   simp only at hb h4 ⊢
   rw [V2o _ _ _ (by omega),bs]
   exact .of ⟨by simp; omega,h4⟩
  ·refine Gv.bind (ih c2 data (by omega) h2) ?_
   rintro ⟨b,c4⟩ ⟨hb,h4⟩
   simp only at hb h4 ⊢
   rw [V2o _ _ _ (by omega),bs]
   exact .of ⟨by simp; omega,h4⟩
theorem V2r (c:K01):∀ (k:Nat) (ty:List Int),1 ≤ ty.length→ty.length + k=30∨(30 ≤ ty.length∧k=0)→ty.length ≤ 100→Gv (Kcd (c,ty)) (fun r=>r.length ≤ 100):=by
 intro k
 induction k using Nat.strongRecOn with
 | ind k ih =>
  intro ty h1 h2 h3
  rw [Kcd.eq_def]
  simp only
  refine .ite (fun hb=>?_) (fun _=>.of h3)
  have hb:=of_decide_eq_true hb
  rw [V2o _ _ _ (by omega),bs]
  by_cases hk:2 * ty.length + 1 < 30
  ·exact ih (30 - (2 * ty.length + 1)) (by omega) _ (by simp) (by left; simp; omega) (by simp; omega)
  ·exact ih 0 (by omega) _ (by simp) (by right; simp; omega) (by simp; omega)
theorem V2s {s:K00} {c:K01} (h:Kzv c):Gv (Kcg (c,s)) (fun r=>r.1.length ≤ 100∧Kzv r.2):=by
 unfold Kcg
 simp only
 refine Gv.bind (V03 h 2) ?_
 rintro ⟨x,c1⟩ h1
 simp only at h1 ⊢
 refine Gv.bind (V2q 3 c1 x (by decide) h1) ?_
 rintro ⟨ty,c2⟩ ⟨⟨l1,l2⟩,h2⟩
 simp only at l1 l2 h2 ⊢
 refine Gv.bind (V02 h2 14) ?_
 rintro ⟨y,c3⟩ ⟨hy,h3⟩
 simp only at hy h3 ⊢
 refine Gv.bind (Q:=fun r:List Int × List Int × Int × Int=>r.1.length ≤ 100∧Kzv ⟨r.2.1,r.2.2.1,r.2.2.2⟩) (.ite (fun _=>?_) (fun _=>?_)) ?_
 ·refine Gv.bind (V02 h3 _) ?_
  rintro ⟨z,c4⟩ ⟨hz,h4⟩
  simp only at hz h4 ⊢
  refine Gv.bind (V04 h4 _ (by decide)) ?_
  rintro ⟨w,c5⟩ ⟨hw,h5⟩
  simp only at hw h5 ⊢
  have hz:=hz.1 (by omega)
  obtain ⟨v,e,hv⟩:=Kzx hz.1 hz.2
  rw [e,bs]
  exact .of ⟨by simp; omega,h5⟩
 ·refine Gv.bind (Q:=fun r:List Int=>r.length ≤ 100) (.ite (fun _=>?_) (fun _=>?_)) ?_
  ·rw [show wr ((ty.length:Int) - 1)=((ty.length - 1:Nat):Int) from by rw [Ko9 (by omega) (by omega)]; omega,Kxe (by omega),bs]
   exact .of (by simp; omega)
  ·refine Gv.bind (Q:=fun r:List Int=>r.length ≤ 100) (.ite (fun _=>?_) (fun _=>?_)) (fun r hr=>.of hr)
   ·rw [Krc (by simp; omega),bs]
    exact .of (by simp; omega)
   ·refine Gv.bind (Q:=fun r:List Int=>r.length ≤ 100) (.ite (fun _=>?_) (fun _=>.of (by omega))) (fun r hr=>.of hr)
    exact Gv.bind (V2r c3 (30 - ty.length) ty l1 (by omega) (by omega)) (fun r hr=>.of hr)
  ·intro r hr
   exact .of ⟨hr,h3⟩
 ·rintro ⟨a,b,d,e⟩ q
  exact .of q
theorem V2t {P:Int→Prop} {g:Int→Bool} {y:List Int→Bool} (hg:∀ c,P c→Kpj c > 0→c > 2→g (Kq4 c)=true) (hy:∀ U:Ty,U.ok→U.code.length ≤ 40→(∀ c ∈ U.code,P c)→y U.code=true) {T:Ty} {v:K02} (h:Cl T v) :
  T.ok→T.code.length ≤ 40→(∀ c ∈ T.code,P c)→(∀ m:Nat,tOk g y m v=true)∧tsz v ≤ T.code.length:=by
 induction h with
 | num N hN =>
  intro _ _ _
  refine ⟨fun m=>?_,by simp [tsz,Kqa,Ty.code]⟩
  rw [Kr1]
  simp [Kr0,Kqz,Kqx,Kqy,inB,Kqj,Kqk,Kql,hN.1,hN.2]
 | @pair a b k m h1 h2 ih1 ih2 =>
  intro ho hl hp
  rw [Ty.code,List.length_cons,List.length_append] at hl ⊢
  rw [Ty.code] at hp
  obtain ⟨a1,a2⟩:=ih1 ho.2.1 (by omega) (fun c hc=>hp c (by simp [hc]))
  obtain ⟨b1,b2⟩:=ih2 ho.2.2 (by omega) (fun c hc=>hp c (by simp [hc]))
  refine ⟨fun m=>?_,by simp only [tsz,Kqa]; omega⟩
  rw [Kr1]
  simp [Kr0,a1,b1,Kqz,Kqx,Kqy,inB,Kqj,Kqk,Kql]
 | @left a b k h1 ih1 =>
  intro ho hl hp
  rw [Ty.code,List.length_cons,List.length_append] at hl ⊢
  rw [Ty.code] at hp
  obtain ⟨a1,a2⟩:=ih1 ho.2.1 (by omega) (fun c hc=>hp c (by simp [hc]))
  have yb:=hy b ho.2.2 (by omega) (fun c hc=>hp c (by simp [hc]))
  refine ⟨fun m=>?_,by simp only [tsz,Kqa]; omega⟩
  rw [Kr1]
  simp [Kr0,a1,yb,Kqz,Kqx,Kqy,inB,Kqj,Kqk,Kql]
 | @right a b k h1 ih1 =>
  intro ho hl hp
  rw [Ty.code,List.length_cons,List.length_append] at hl ⊢
  rw [Ty.code] at hp
  obtain ⟨a1,a2⟩:=ih1 ho.2.2 (by omega) (fun c hc=>hp c (by simp [hc]))
  have yb:=hy a ho.2.1 (by omega) (fun c hc=>hp c (by simp [hc]))
  refine ⟨fun m=>?_,by simp only [tsz,Kqa]; omega⟩
  rw [Kr1]
  simp [Kr0,a1,yb,Kqz,Kqx,Kqy,inB,Kqj,Kqk,Kql]
 | @fn c a b k hcc h1 ih1 =>
  intro ho hl hp
  rw [Ty.code,List.length_cons,List.length_append] at hl ⊢
  rw [Ty.code] at hp
  obtain ⟨a1,a2⟩:=ih1 ho.2.2 (by omega) (fun c hc=>hp c (by simp [hc]))
  have yb:=hy a ho.2.1 (by omega) (fun c hc=>hp c (by simp [hc]))
  have gg:=hg c (hp c (by simp)) (by rw [ho.1]; decide) (by unfold Kph inB at hcc; simp at hcc; omega)
  refine ⟨fun m=>?_,by simp only [tsz,Kqa]; omega⟩
  rw [Kr1]
  simp [Kr0,a1,yb,gg,Kqz,Kqx,Kqy,inB,Kqj,Kqk,Kql]
 | @box c a k hcc h1 ih1 =>
  intro ho hl hp
  rw [Ty.code,List.length_cons] at hl ⊢
  rw [Ty.code] at hp
  obtain ⟨a1,a2⟩:=ih1 ho.2 (by omega) (fun c hc=>hp c (by simp [hc]))
  have gg:=hg c (hp c (by simp)) (by rw [ho.1]; decide) (by unfold Kpi inB at hcc; simp at hcc; omega)
  refine ⟨fun m=>?_,by simp only [tsz,Kqa]; omega⟩
  rw [Kr1]
  simp [Kr0,a1,gg,Kqz,Kqx,Kqy,inB,Kqj,Kqk,Kql]
theorem V2u {size c:Int} (h:Kq5 size true c=true) (h1:Kpj c > 0) (h2:c > 2):gN size true (Kq4 c)=true:=by
 unfold Kq5 at h
 unfold gN
 simp [h1,h2] at h ⊢
 omega
theorem V2v {size c:Int} (hs:size ≤ 16) (h:Kq5 size true c=true) (h1:Kpj c > 0) (h2:c > 2):gN 16 false (Kq4 c)=true:=by
 unfold Kq5 at h
 unfold gN
 simp [h1,h2] at h ⊢
 omega
theorem V2w {s:K00} (hsz:s.fSize ≤ 16) {T:Ty} {v:K02} (h:Cl T v) (ho:T.ok) (hl:T.code.length ≤ 40) (hg:T.code.all (Kq5 s.fSize true)=true) :
  (∀ m:Nat,tOk (gN s.fSize true) (yN s.fSize true) m v=true)∧wB v=true∧tsz v ≤ 40:=by
 rw [List.all_eq_true] at hg
 obtain ⟨q1,q2⟩:=V2t (P:=fun c=>Kq5 s.fSize true c=true) (g:=gN s.fSize true) (y:=yN s.fSize true) (fun c h h1 h2=>V2u h h1 h2) (fun U u1 u2 u3=>by
  unfold yN
  rw [Ksc u1 u2,List.all_eq_true.2 u3]; rfl) h ho hl hg
 obtain ⟨r1,_⟩:=V2t (P:=fun c=>Kq5 s.fSize true c=true) (g:=gN 16 false) (y:=wtB) (fun c h h1 h2=>V2v hsz h h1 h2) (fun U u1 u2 u3=>Ksc u1 u2) h ho hl hg
 refine ⟨q1,?_,by omega⟩
 unfold wB
 rw [r1 8,decide_eq_true (by omega)]; rfl
theorem V2x {T:Ty} {v:K02} (h:Cl T v):∀ p,Krh v p=[]:=by
 induction h with
 | num N hN=>intro p; simp [Krh,Kri,Kre]
 | pair h1 h2 ih1 ih2=>intro p; simp [Krh,Kri,Kre,ih1,ih2]
 | left h1 ih1=>intro p; simp [Krh,Kri,Kre,ih1]
 | right h1 ih1=>intro p; simp [Krh,Kri,Kre,ih1]
 | fn hc h1 ih1=>intro p; simp [Krh,Kri,Kre,ih1]
 | box hc h1 ih1=>intro p; simp [Krh,Kri,Kre,ih1]
theorem V2y {s:K00} {T:Ty} (h:Kt2 s T.code=true):Ks1 s=true∧T.code.all (Kq5 s.fSize true)=true:=by
 unfold Kt2 at h
 rw [Bool.and_eq_true] at h
 refine ⟨h.1,?_⟩
 have h2:=h.2
 rw [Kt1 (Ks2 h.1)] at h2
 unfold yN at h2
 rw [Bool.and_eq_true] at h2
 exact h2.2
theorem V2z {s:K00} {T:Ty} {v:K02} (h:Cl T v) (ho:T.ok) (hl:T.code.length ≤ 40) (ht:Kt2 s T.code=true) (hm:tms v ≤ 1048576) :
  ∃ b,Klr (s,[],v)=some (if b then T.code else [],[],b)∧(((∀ g,g < s.fSize.toNat→le s s.fSize.toNat 0 g=true)∨T.dat)→b=true):=by
 obtain ⟨sy,hg⟩:=V2y ht
 have hs:=Kv7 sy
 have hsz:s.fSize ≤ 16:=by have:=hs.tab.size; have:=hs.tab.hi; omega
 obtain ⟨q1,q2,q3⟩:=V2w hsz h ho hl hg
 have hi:Kwp s [] v=true:=by
  unfold Kwp Kwf Kui
  rw [sy,q1]
  simp
  omega
 obtain ⟨x,r⟩:=V2m hs h ho hl hg [] (by simp; omega)
 rcases Kzs s [] v (by simp [lms,lct]) (by omega) with ⟨_,h2,h3⟩ | ⟨x',y,r',hf,_,_,h2,_⟩
 ·refine ⟨false,h2,fun hz=>?_⟩
  rcases h3 with h3 | ⟨x',y,r',hf⟩
  ·rw [hi] at h3; cases h3
  ·have e:=r.sp
   rw [r'.sp] at e
   cases e
   exact absurd (r.no hz) hf
 ·have e:=r.sp
  rw [r'.sp] at e
  cases e
  obtain ⟨t1,t2⟩:=r.gd hf
  refine ⟨true,?_,fun _=>rfl⟩
  rw [h2,t1,t2]
  rfl
theorem V30 (a:List Int) (ha:a.length ≤ 1099511627776):∀ (k n:Nat),n + k=a.length→Klv (a,a,(n:Int))=some (.inl ()):=by
 intro k
 induction k with
 | zero =>
  intro n hn
  rw [Klv.eq_def]
  simp only
  rw [Kod (by omega)]; rfl
 | succ k ih =>
  intro n hn
  rw [Klv.eq_def]
  simp only
  rw [Koc (by omega),if_pos rfl,Koa (by omega),bs,bs,Koe,if_neg (by decide),Kob (by omega),ih (n + 1) (by omega)]
theorem V31 (a:List Int) (ha:a.length ≤ 1099511627776):Kly (a,a)=some true:=by
 unfold Kly
 simp only
 rw [Koe,if_neg (by decide),show (0:Int)=((0:Nat):Int) from rfl,V30 a ha a.length 0 (by omega),bs]
theorem V32 {s:K00} {T:Ty} {v:K02} (h:(Kt2 s T.code && Ksm T.code)=true) (h1:T.ok) (h2:T.dat) (h4:T.code.length ≤ 40) (hc:Kt7 T ≤ 300) (q:vB T v=true):Kmd (s,T.code,v)=some ((plV T v:Nat):Int):=by
 unfold Kmd
 simp only
 rcases Kti s T.code (by omega) with ⟨T',a1,a2,a3,a4,a5,a6,a7⟩ | ⟨a5,a6,a7⟩
 ·have:Kh0 (s,T.code)=some (Kt7 T:Int):=by
   unfold Kh0
   simp only
   rw [Kt6 s T.code (by omega),h,bs,if_pos rfl,Ktg T h1 h2 (by omega),bs,bs,decide_eq_false (by omega),if_neg (by decide),bs]
  rw [this,bs,Ku5 T v h1 h2 (by omega),q,decide_eq_false (by omega),Kv0 T v h1 h2 (by omega) hc q]
  rfl
 ·rw [h] at a5; cases a5
theorem V33 (T:Ty):∀ k:Nat,T.ok→T.dat→Kt7 T ≤ 300→k < Kt7 T→vB T (vAt T k)=true:=by
 induction T with
 | num =>
  intro k _ _ _ hk
  rw [Kt7] at hk
  rw [vAt,Ku2]
  simp [inB]
  omega
 | bin c a b iha ihb =>
  intro k ho hd hc hk
  rw [vAt]
  rcases hd.1 with rfl | rfl
  ·obtain ⟨e,ca,cb⟩:=Kuu hc
   rw [e] at hk
   have hb:=(Kt8 b).1
   have d1:k / Kt7 b < Kt7 a:=Nat.div_lt_of_lt_mul (by rw [Nat.mul_comm]; exact hk)
   have d2:k % Kt7 b < Kt7 b:=Nat.mod_lt _ (by omega)
   have w:wr (Int.tdiv (k:Int) (Kt7 b:Int))=((k / Kt7 b:Nat):Int):=by
    rw [V0w]
    generalize k / Kt7 b=q at *
    rw [Ko9 (by omega) (by omega)]
   have q1:=iha _ ho.2.1 hd.2.1 ca d1
   have q2:=ihb _ ho.2.2 hd.2.2 cb d2
   rw [if_pos rfl,w,V0n,Ku3,if_pos rfl]
   simp only [q1,q2]
   rfl
  ·obtain ⟨e,ca,cb⟩:=Kuv (by decide) hc
   rw [e] at hk
   rw [if_neg (by decide)]
   by_cases q:k < Kt7 a
   ·rw [if_pos (by omega),Ku3,if_neg (by decide)]
    simp [iha k ho.2.1 hd.2.1 ca q]
   ·have w:wr ((k:Int) - (Kt7 a:Int))=((k - Kt7 a:Nat):Int):=by rw [Ko9 (by omega) (by omega)]; omega
    rw [if_neg (by omega),w,Ku3,if_neg (by decide)]
    simp [ihb (k - Kt7 a) ho.2.2 hd.2.2 cb (by omega)]
 | un c a ih =>
  intro k ho hd hc hk
  rw [Kt7] at hk hc
  rw [vAt,Ku4]
  simp [ih k ho.2 hd hc hk]
theorem V34 (code:List Int) (hl:code.length ≤ 1048576) (hb:∀ v ∈ code,0 ≤ v∧v ≤ 255):Gv (Ke5 code) (fun r=>sms r.1 ≤ 300∧r.2.1.length ≤ 100∧(-9223372036854775808 ≤ r.2.2∧r.2.2 ≤ 9223372036854775807)):=by
 unfold Ke5
 refine Gv.bind (Kzz code hl hb) (fun c0 h0=>?_)
 refine Gv.bind (V2d h0) ?_
 rintro ⟨s,c1⟩ ⟨hs,h1⟩
 simp only at hs h1 ⊢
 have hsm:=(V28 hs).2.2
 refine Gv.bind (V2q 3 c1 true (by decide) h1) ?_
 rintro ⟨ty,c2⟩ ⟨⟨l1,l2⟩,h2⟩
 simp only at l1 l2 h2 ⊢
 refine Gv.bind (V03 h2 8) ?_
 rintro ⟨x,c3⟩ h3
 simp only at h3 ⊢
 refine .ite (fun _=>?_) (fun _=>?_)
 ·refine Gv.bind (V2s h3) ?_
  rintro ⟨ty',c4⟩ ⟨hty,h4⟩
  simp only at hty h4 ⊢
  refine Gv.bind (V05 h4) ?_
  rintro ⟨k,c5⟩ ⟨hk,h5⟩
  exact .of ⟨hsm,hty,hk⟩
 ·have cv:∃ m:Int,Ke2 (s,ty)=some m∧-1 ≤ m∧m ≤ 300:=by
   rcases Kti s ty (by omega) with ⟨T',a1,a2,a3,a4,a5,a6,a7⟩ | ⟨a5,a6,a7⟩
   ·refine ⟨_,a6,?_⟩
    split <;> omega
   ·exact ⟨-1,a6,by decide,by decide⟩
  obtain ⟨m,e,m1,m2⟩:=cv
  rw [e,bs]
  have mx:∃ q:Int,K97 (m,0)=some q∧0 ≤ q∧q ≤ 300:=by
   unfold K97
   simp only
   by_cases h:m > 0
   ·rw [decide_eq_true h,if_pos rfl]; exact ⟨m,rfl,by omega,m2⟩
   ·rw [decide_eq_false h,if_neg (by decide)]; exact ⟨0,rfl,by decide,by decide⟩
  obtain ⟨q,e2,q1,q2⟩:=mx
  rw [e2,bs,Ko9 (by omega) (by omega)]
  refine Gv.bind (V02 h3 _) ?_
  rintro ⟨k,c4⟩ ⟨hk,h4⟩
  simp only at hk ⊢
  have hk:=hk.1 (by omega)
  exact .of ⟨hsm,by simp only; omega,by simp only; omega⟩
theorem V35 {s:K00} {T:Ty} (h:(Kt2 s T.code && Ksm T.code)=true) (h1:T.ok) (h2:T.dat) (h4:T.code.length ≤ 40) (k:Int):Kh0 (s,T.code)=some (if Kt7 T > 300 then -1 else (Kt7 T:Int))∧Ke2 (s,T.code)=some (if Kt7 T > 300 then -1 else (Kt7 T:Int)) ∧
  Kh9 (s,T.code,k)=some (if inB k 0 (wr ((if Kt7 T > 300 then -1 else (Kt7 T:Int)) - 1))=true then (vAt T k,true) else (⟨0,0,[],[]⟩,false)):=by
 have hcv:Kh0 (s,T.code)=some (if Kt7 T > 300 then -1 else (Kt7 T:Int))∧Ke2 (s,T.code)=some (if Kt7 T > 300 then -1 else (Kt7 T:Int)):=by
  unfold Kh0 Ke2
  simp only
  rw [Kt6 s T.code (by omega),Kt4 s T.code (by omega),h,bs,bs,if_pos rfl,if_pos rfl,Ktg T h1 h2 (by omega),Ktf T h1 h2 (by omega),bs,bs,bs]
  by_cases q:Kt7 T > 300
  ·rw [decide_eq_true (by omega),if_pos rfl,if_pos q]; exact ⟨rfl,rfl⟩
  ·rw [decide_eq_false (by omega),if_neg (by decide:¬ false=true),if_neg q]; exact ⟨rfl,rfl⟩
 refine ⟨hcv.1,hcv.2,?_⟩
 unfold Kh9
 simp only
 rw [hcv.1,bs,iIn,bs]
 cases inB k 0 (wr ((if Kt7 T > 300 then -1 else (Kt7 T:Int)) - 1)) with
 | false=>rfl
 | true=>rw [if_pos rfl,if_pos rfl,Ktw T h1 h2 (by omega)]; rfl
theorem V36 {T:Ty} {v:K02} (h:Cl T v) (hw:wB v=true) (hm:tms v ≤ 1048576):Kn8 v=some true:=by
 unfold Kn8
 rw [Kr9 v (by omega),hw,bs,if_pos rfl]
 unfold wB at hw
 rw [Bool.and_eq_true,decide_eq_true_eq] at hw
 rw [Krp _ _ v 8 [] hw.1 (by simp; omega),V2x h]
 rfl
theorem V37 (code:List Int) (w:code.length ≤ maxLen∧∀ v ∈ code,0 ≤ v∧v ≤ 255):Knb code=some true:=by
 unfold Knb K84
 rw [bs]
 by_cases hbig:(code.length:Int) > 1048576
 ·rw [decide_eq_true hbig,if_pos rfl]
 rw [decide_eq_false hbig,if_neg (by decide)]
 obtain ⟨⟨s,ty,k⟩,e,hsm,hty,hk⟩:=V34 code (by omega) w.2
 simp only at hsm hty hk
 rw [e,bs]
 simp only
 rcases Kti s ty (by omega) with ⟨T,h1,h2,rfl,h4,h,_,_⟩ | ⟨h,h5,h6⟩
 rotate_left
 ·have e3:Kh9 (s,ty,k)=some (⟨0,0,[],[]⟩,false):=by
   unfold Kh9
   simp only
   rw [h6,bs,iIn,bs]
   have:inB k 0 (wr (-1 - 1))=false:=by
    rw [Ko9 (by omega) (by omega),Bool.eq_false_iff]
    unfold inB; simp; omega
   rw [this]; rfl
  rw [h6,bs,e3,bs]
  simp only
  by_cases k0:k < 0
  ·have e2:decide (k ≥ 0)=false:=decide_eq_false (by omega)
   rw [e2,if_neg (by decide),bs,if_neg (by decide),if_neg (by decide),decide_eq_true k0,if_pos rfl]; rfl
  ·have e2:decide (k ≥ 0)=true:=decide_eq_true (by omega)
   rw [e2,if_pos rfl,decide_eq_false (show ¬ k < -1 by omega),bs,if_neg (by decide),if_neg (by decide),decide_eq_false k0,if_neg (by decide),h5,bs,decide_eq_true (show k ≥ -1 by omega)]; rfl
 ·obtain ⟨c1,c2,c3⟩:=V35 h h1 h2 h4 k
  rw [c1,bs]
  by_cases hc:Kt7 T > 300
  ·rw [if_pos hc] at c3
   have e1:inB k 0 (wr (-1 - 1))=false:=by
    rw [Ko9 (by omega) (by omega),Bool.eq_false_iff]
    unfold inB; simp; omega
   rw [e1] at c3
   rw [if_pos hc,show Kh9 (s,T.code,k)=some (⟨0,0,[],[]⟩,false) from c3,bs]
   simp only
   by_cases k0:k < 0
   ·have e2:decide (k ≥ 0)=false:=decide_eq_false (by omega)
    rw [e2,if_neg (by decide),bs,if_neg (by decide),if_neg (by decide),decide_eq_true k0,if_pos rfl]; rfl
   ·have e2:decide (k ≥ 0)=true:=decide_eq_true (by omega)
    rw [e2,if_pos rfl,decide_eq_false (show ¬ k < -1 by omega),bs,if_neg (by decide),if_neg (by decide),decide_eq_false k0,if_neg (by decide),c2,bs,if_pos hc,decide_eq_true (show k ≥ -1 by omega)]; rfl
  ·have hw:wr ((Kt7 T:Int) - 1)=(Kt7 T:Int) - 1:=Ko9 (by omega) (by omega)
   rw [if_neg hc,hw] at c3
   rw [if_neg hc]
   by_cases hi:0 ≤ k∧k < Kt7 T
   ·have e1:inB k 0 ((Kt7 T:Int) - 1)=true:=by unfold inB; simp; omega
    have e2:decide (k ≥ 0)=true:=decide_eq_true (by omega)
    obtain ⟨j,rfl⟩:∃ j:Nat,k=(j:Int):=⟨k.toNat,by omega⟩
    have hv:=V33 T j h1 h2 (by omega) (by omega)
    have hcl:=V2e T _ h1 h2 hv
    have htm:=Ktu T (j:Int)
    have ht:Kt2 s T.code=true:=by rw [Bool.and_eq_true] at h; exact h.1
    obtain ⟨sy,hg⟩:=V2y ht
    have hsz:s.fSize ≤ 16:=by have:=(Kv7 sy).tab.size; have:=(Kv7 sy).tab.hi; omega
    obtain ⟨t1,t2,t3⟩:=V2w hsz hcl h1 h4 hg
    obtain ⟨b,q1,q2⟩:=V2z hcl h1 h4 ht (by omega)
    have hb:=q2 (.inr h2)
    subst hb
    rw [e1] at c3
    rw [show Kh9 (s,T.code,(j:Int))=some (vAt T j,true) from c3,bs]
    simp only [e2,if_true,decide_eq_true hi.2,bs,Ktl,Bool.false_eq_true,if_false,q1]
    rw [if_pos (by simp),V31 T.code (by omega),bs,if_pos rfl,(Kuz (vAt T j) h h1 h2 h4 (by omega)).2,hv,bs,if_pos rfl,V32 h h1 h2 h4 (by omega) hv,Kux T j h2 (by omega) (by omega),bs,if_pos (by simp),V36 hcl t2 (by omega),bs,bs]
   ·have e1:inB k 0 ((Kt7 T:Int) - 1)=false:=by rw [Bool.eq_false_iff]; unfold inB; simp; omega
    rw [e1] at c3
    rw [show Kh9 (s,T.code,k)=some (⟨0,0,[],[]⟩,false) from c3,bs]
    simp only
    by_cases k0:k < 0
    ·have e2:decide (k ≥ 0)=false:=decide_eq_false (by omega)
     rw [e2,if_neg (by decide),bs,if_neg (by decide),if_neg (by decide),decide_eq_true k0,if_pos rfl]; rfl
    ·have e2:decide (k ≥ 0)=true:=decide_eq_true (by omega)
     rw [e2,if_pos rfl,decide_eq_false (show ¬ k < (Kt7 T:Int) by omega),bs,if_neg (by decide),if_neg (by decide),decide_eq_false k0,if_neg (by decide),c2,bs,if_neg hc,decide_eq_true (show k ≥ (Kt7 T:Int) by omega)]; rfl
end Go.Am
