/- Plain laws of the printed functions. -/
import Derived.Test.YtmcpomoofkjfcaaGreatPCT1
set_option linter.unusedSimpArgs false
set_option linter.unusedVariables false
namespace Go.Am
theorem V2b (g:Nat) (h:g ≤ 15):Kt0 (3 + (g:Int))=(3,(g:Int)):=by
 rcases Kt2 (3 + (g:Int)) with h | h | h | h | h | h | h | h <;> first | omega | (obtain ⟨_,e⟩:=h; rw [e]; congr 1; omega)
theorem V2c (g:Nat) (h:g ≤ 15):Kt0 (19 + (g:Int))=(4,(g:Int)):=by
 rcases Kt2 (19 + (g:Int)) with h | h | h | h | h | h | h | h <;> first | omega | (obtain ⟨_,e⟩:=h; rw [e]; congr 1; omega)
theorem V2d (g:Nat) (h:g ≤ 15):Kst (3 + (g:Int))=true:=by unfold Kst inB; simp; omega
theorem V2e (g:Nat) (h:g ≤ 15):Kst (19 + (g:Int))=false:=by unfold Kst inB; simp; omega
theorem V2f (g:Nat) (h:g ≤ 15):Ksu (3 + (g:Int))=false:=by unfold Ksu inB; simp; omega
theorem V2g (g:Nat) (h:g ≤ 15):Ksu (19 + (g:Int))=true:=by unfold Ksu inB; simp; omega
theorem V2h (g:Nat) (h:g ≤ 15):Kci (3 + (g:Int))=some (g:Int):=by
 rw [Kti (by rcases Ksz (3 + (g:Int)) with h | h | h | h <;> omega)]
 unfold Ktg
 rw [if_neg (by omega),if_neg (by omega)]
 congr 1; omega
theorem V2i (g:Nat) (h:g ≤ 15):Kci (19 + (g:Int))=some (g:Int):=by
 rw [Kti (by rcases Ksz (19 + (g:Int)) with h | h | h | h <;> omega)]
 unfold Ktg
 rw [if_neg (by omega),if_pos (by omega)]
 congr 1; omega
section
variable {s:K00} {n:Nat} (hs:Ky8 s n) {ctx:List (List Int)} {N:Int} {ty:List Int} {ks:List K01}
include hs
structure V2j (s:K00) (n:Nat) (q:List Int) (c:Int):Prop where
 arr:(Kt0 c).1=3→∃ (g:Nat) (a b:List Int),g < n∧g ≤ 15∧c=3 + (g:Int)∧q=c :: (a ++ b)∧Kzx s (3 + (g:Int)) a b
 pair:(Kt0 c).1=1→∃ (a b:List Int),c=1∧q=c :: (a ++ b)∧Kzx s 1 a b
 sum:(Kt0 c).1=2→∃ (a b:List Int),c=2∧q=c :: (a ++ b)∧Kzx s 2 a b
 box:(Kt0 c).1=4→∃ (g:Nat) (a:List Int),g < n∧g ≤ 15∧c=19 + (g:Int)∧q=c :: a∧Kzy s (19 + (g:Int)) a
 arrB:Kst c=true ↔ (Kt0 c).1=3
 boxB:Ksu c=true ↔ (Kt0 c).1=4
 one:c=1 ↔ (Kt0 c).1=1
 two:c=2 ↔ (Kt0 c).1=2
theorem V2k {q:List Int} (hq:TyS s q) {c:Int} {r:List Int} (e:q=c :: r):V2j s n q c:=by
 rcases V03 hs hq with rfl | ⟨a,b,rfl,P⟩ | ⟨a,b,rfl,P⟩ | ⟨g,a,b,hg,h15,rfl,P⟩ | ⟨g,a,hg,h15,rfl,P⟩
 ·cases e
  refine ⟨fun h=>?_,fun h=>?_,fun h=>?_,fun h=>?_,by decide,by decide,by decide,by decide⟩ <;> exact absurd h (by decide)
 ·cases e
  refine ⟨fun h=>absurd h (by decide),fun _=>⟨a,b,rfl,rfl,P⟩,fun h=>absurd h (by decide),fun h=>absurd h (by decide),by decide,by decide,by decide,by decide⟩
 ·cases e
  refine ⟨fun h=>absurd h (by decide),fun h=>absurd h (by decide),fun _=>⟨a,b,rfl,rfl,P⟩,fun h=>absurd h (by decide),by decide,by decide,by decide,by decide⟩
 ·cases e
  have hsh:=V2b g h15
  refine ⟨fun _=>⟨g,a,b,hg,h15,rfl,rfl,P⟩,fun h=>?_,fun h=>?_,fun h=>?_,?_,?_,?_,?_⟩
  ·rw [hsh] at h; simp at h
  ·rw [hsh] at h; simp at h
  ·rw [hsh] at h; simp at h
  ·rw [hsh,V2d g h15]; simp
  ·rw [hsh,V2f g h15]; simp
  ·rw [hsh]; simp; omega
  ·rw [hsh]; simp; omega
 ·cases e
  have hsh:=V2c g h15
  refine ⟨fun h=>?_,fun h=>?_,fun h=>?_,fun _=>⟨g,_,hg,h15,rfl,rfl,P⟩,?_,?_,?_,?_⟩
  ·rw [hsh] at h; simp at h
  ·rw [hsh] at h; simp at h
  ·rw [hsh] at h; simp at h
  ·rw [hsh,V2e g h15]; simp
  ·rw [hsh,V2g g h15]; simp
  ·rw [hsh]; simp; omega
  ·rw [hsh]; simp; omega
theorem V2l (ih:V1y s n (tsz (⟨10,N,ty,ks⟩:K01))) (h:tOk (gN s.fSize true) (yN s.fSize true) ctx.length ⟨10,N,ty,ks⟩=true) (hc:∀ q ∈ ctx,TyS s q) (hb:ctx.length + 2 * tsz (⟨10,N,ty,ks⟩:K01) ≤ 1000000):∃ x y,V1h s n ctx ⟨10,N,ty,ks⟩ x y:=by
 obtain ⟨k0,k1,rfl,p0,p1⟩:=nd2 h (Nat.le_refl _) rfl
 have hz:=Kxv 10 N ty k0 k1
 obtain ⟨x0,y0,r0⟩:=ih k0 ctx p0 hc (by omega)
 obtain ⟨x1,y1,r1⟩:=ih k1 ctx p1 hc (by omega)
 by_cases f0:x0.ffault=0
 rotate_left
 ·exact V20 (by decide) (by decide) (by decide) hb r0 f0
 obtain ⟨g0,q0,a,na,la,ba⟩:=r0.gd f0
 obtain ⟨c0,t0,ht0,hn0,hz0⟩:=V23 hs g0
 have L0:=Kzu g0
 have e0:Kfm (s,ctx,⟨10,N,ty,[k0,k1]⟩,0)=some x0:=V1i (i:=0) rfl r0 f0
 have C:=V2k hs g0 ht0
 have i0:idx x0.fty 0=some c0:=by rw [ht0]; rfl
 by_cases z0:(Kt0 c0).1=3
 rotate_left
 ·have w0:Kst c0=false:=by cases h:Kst c0 with | true=>exact absurd (C.arrB.1 h) z0 | false=>rfl
  refine V1h.bad (f:=6) (p:=[]) ?_ (V0n (by omega) (V1l (m:=[]) rfl (V1u (by decide)) r0 (by simp; omega) f0 (by rw [ht0,V0u,if_neg z0]) (by decide))) (by decide) (by simp; omega)
  rw [Kfk.eq_def]
  simp [e0,f0,i0,Ksw,w0,Ked]
 obtain ⟨g,p,q,hg,h15,hcg,hq,P⟩:=C.arr z0
 have w0:Kst c0=true:=C.arrB.2 z0
 have o0:=V1n (out:=[]) (nd:=[]) (us:=[]) (w:=0) (t:=⟨10,N,ty,[k0,k1]⟩) (m:=[]) rfl (V1u (by decide)) r0 (by simp; omega) f0 (by rw [ht0,V0u,if_pos z0]) (V0q (by decide)) na (by simp <;> omega) (by simp) (by simp) (by simp) (by simp)
 have m1:V0c ⟨10,N,ty,[k0,k1]⟩ [y0] 1=some []:=V1w (by decide) (V1o (by decide) rfl)
 by_cases f1:x1.ffault=0
 rotate_left
 ·have e1:Kfm (s,ctx,⟨10,N,ty,[k0,k1]⟩,1)=some ⟨[],[],x1.ffault,1 :: x1.fpath⟩:=V1j (i:=1) rfl r1 (by omega) f1
  refine V1h.bad (f:=x1.ffault) (p:=1 :: x1.fpath) ?_ (V0n (by omega) (o0.trans (V1k (m:=[]) rfl m1 r1 (by omega) (by simp; omega) f1))) f1 (by have:=r1.pl; simp; omega)
  rw [Kfk.eq_def]
  simp [e0,f0,i0,Ksw,w0,e1,f1]
 obtain ⟨g1,q1,b,nb,lb,bb⟩:=r1.gd f1
 obtain ⟨c1,t1,ht1,hn1,hz1⟩:=V23 hs g1
 have L1:=Kzu g1
 have e1:Kfm (s,ctx,⟨10,N,ty,[k0,k1]⟩,1)=some x1:=V1i (i:=1) rfl r1 f1
 have hp0:Kex (x0.fty,0)=some p:=by rw [hq,hcg]; exact P.p0
 have hp1:Kex (x0.fty,1)=some q:=by rw [hq,hcg]; exact P.p1
 have hpp:Kjv y0.fty=some [p,q]:=by rw [r0.ty,hq,hcg]; exact P.pp
 have Lp:=Kzu P.ya
 have Lq:=Kzu P.yb
 have hsm:=Kxm x1.fty p (by omega)
 have hsi:=Kxo x1.fty p (by omega)
 have ha:V0i ⟨10,N,ty,[k0,k1]⟩ [y0] 1 y1=some (!(x1.fty == p)):=by
  unfold V0i
  rw [if_pos (show ((10:Int) == 10)=true by decide),if_pos (by decide),V0z,bs,hpp,bs,V0z,bs,r1.ty,hsi,bs]
 by_cases hqq:x1.fty=p
 rotate_left
 ·rw [show (x1.fty == p)=false from beq_eq_false_iff_ne.2 hqq] at hsm ha
  refine V1h.bad (f:=3) (p:=[]) ?_ (V0n (by omega) (o0.trans (V1m (m:=[]) rfl m1 r1 (by simp; omega) f1 (by rw [ht1]; exact V0r (.inr (by decide))) ha))) (by decide) (by simp; omega)
  rw [Kfk.eq_def]
  simp [e0,f0,i0,Ksw,w0,e1,f1,hp0,hsm,Ked]
 rw [show (x1.fty == p)=true from beq_iff_eq.2 hqq] at hsm ha
 have o1:=V1n (out:=[y0]) (nd:=[Ky3 a]) (us:=[Ky3 []]) (w:=1) (t:=⟨10,N,ty,[k0,k1]⟩) (m:=[]) rfl m1 r1 (by simp; omega) f1 (by rw [ht1]; exact V0r (.inr (by decide))) ha nb (by simp <;> omega) (by simp) (by simp) (by simp) (by simp)
 have hf:=V1b (N:=N) (ty:=ty) (ks:=[k0,k1]) (ctx:=ctx) (us:=[Ky3 [],Ky3 []]) (z:=Ky3 (List.replicate ctx.length 0)) (y0:=y0) (y1:=y1) hs hg (p:=p) (q:=q) (by rw [r0.ty,hq,hcg]) P ba bb (by omega) (by omega)
 have im:=V1z (q:=q) (ns:=Kyg s n a (Kyh s n g b)) (kids:=[y0,y1]) Lq (V0o (p0:=⟨s⟩) (t:=⟨10,N,ty,[k0,k1]⟩) (ctx:=ctx) (by omega) (o0.trans (o1.trans (V0f (Nat.le_refl _)))) hf)
 have lsc:(Kyh s n g b).length=ctx.length:=by unfold Kyh; rw [List.length_map]; exact lb
 refine V1h.good (q:=q) (ns:=Kyg s n a (Kyh s n g b)) (kids:=[y0,y1]) ?_ im (by omega) P.yb (by unfold Kyg; rw [List.length_zipWith]; omega) (Kym hs ba (Kyn hs hg bb)) rfl (kd2 (V1g.mk' (V1o (by decide) rfl) r0 f0 (fun _ h=>by cases h) rfl) (V1g.mk' (V1o (by decide) rfl) r1 f1 (fun _ h=>by cases h) rfl))
 have hgr:Kci c0=some (g:Int):=by rw [hcg]; exact V2h g h15
 rw [Kfk.eq_def]
 simp [e0,f0,i0,Ksw,w0,e1,f1,hp0,hp1,hsm,hgr,na,nb,Kys hs g hg a b ba bb (by omega) (by omega)]
theorem V2m (ih:V1y s n (tsz (⟨5,N,ty,ks⟩:K01))) (h:tOk (gN s.fSize true) (yN s.fSize true) ctx.length ⟨5,N,ty,ks⟩=true) (hc:∀ q ∈ ctx,TyS s q) (hb:ctx.length + 2 * tsz (⟨5,N,ty,ks⟩:K01) ≤ 1000000):∃ x y,V1h s n ctx ⟨5,N,ty,ks⟩ x y:=by
 obtain ⟨k0,k1,rfl,p0,p1⟩:=nd2 h (Nat.le_refl _) rfl
 have hz:=Kxv 5 N ty k0 k1
 obtain ⟨g,hN,hg⟩:=V06 hs (V08 h rfl)
 simp only at hN
 subst hN
 obtain ⟨x0,y0,r0⟩:=ih k0 ctx p0 hc (by omega)
 by_cases f0:x0.ffault=0
 rotate_left
 ·exact V20 (by decide) (by decide) (by decide) hb r0 f0
 obtain ⟨g0,q0,a,na,la,ba⟩:=r0.gd f0
 obtain ⟨c0,t0,ht0,hn0,hz0⟩:=V23 hs g0
 have L0:=Kzu g0
 have e0:Kfm (s,ctx,⟨5,(g:Int),ty,[k0,k1]⟩,0)=some x0:=V1i (i:=0) rfl r0 f0
 have C:=V2k hs g0 ht0
 have i0:idx x0.fty 0=some c0:=by rw [ht0]; rfl
 by_cases z0:(Kt0 c0).1=1
 rotate_left
 ·have w0:c0 ≠ 1:=fun h=>z0 (C.one.1 h)
  refine V1h.bad (f:=4) (p:=[]) ?_ (V0n (by omega) (V1l (m:=[]) rfl (V1u (by decide)) r0 (by simp; omega) f0 (by rw [ht0,V0v hs hg,if_neg z0]) (by decide))) (by decide) (by simp; omega)
  rw [Kfk.eq_def]
  simp [e0,f0,i0,Kfl.eq_def,w0,Ked]
 obtain ⟨p,q,hcg,hq,P⟩:=C.pair z0
 have hle:=sLe hs.tab (Kya hs) hg
 cases hl:le s n 1 g with
 | false =>
  have hl2:Kas (s,1,(g:Int))=some false:=by rw [← hl]; exact hle
  refine V1h.bad (f:=8) (p:=[]) ?_ (V0n (by omega) (V1l (m:=[]) rfl (V1u (by decide)) r0 (by simp; omega) f0 (by rw [ht0,V0v hs hg,if_pos z0,hl]; rfl) (by decide))) (by decide) (by simp; omega)
  rw [Kfk.eq_def]
  simp [e0,f0,i0,Kfl.eq_def,hcg,hl2,Ked]
 | true =>
 have hl2:Kas (s,1,(g:Int))=some true:=by rw [← hl]; exact hle
 have o0:=V1n (out:=[]) (nd:=[]) (us:=[]) (w:=0) (t:=⟨5,(g:Int),ty,[k0,k1]⟩) (m:=[]) rfl (V1u (by decide)) r0 (by simp; omega) f0 (by rw [ht0,V0v hs hg,if_pos z0,hl]; rfl) (V0p (show (5:Int) ≠ 10 by decide)) na (by simp <;> omega) (by simp) (by simp) (by simp) (by simp)
 have hp0:Kex (x0.fty,0)=some p:=by rw [hq,hcg]; exact P.p0
 have hp1:Kex (x0.fty,1)=some q:=by rw [hq,hcg]; exact P.p1
 have ad:Kjy (⟨5,(g:Int),ty,[k0,k1]⟩,((1:Nat):Int),y0.fty)=some [q,p]:=by rw [r0.ty,hq,hcg]; exact V1q P
 have hm':∀ z ∈ [q,p],TyS s z:=fun z hz=>by simp at hz; rcases hz with rfl | rfl; exact P.yb; exact P.ya
 have m1:V0c ⟨5,(g:Int),ty,[k0,k1]⟩ [y0] 1=some [q,p]:=V1w (by decide) ad
 have p1':V07 s ([q,p] ++ ctx).length k1 (tsz (⟨5,(g:Int),ty,[k0,k1]⟩:K01)):=by
  have e:([q,p] ++ ctx).length=ctx.length + Ku6 5 1:=by simp [Ku6]
  rw [e]; exact p1
 obtain ⟨x1,y1,r1⟩:=ih k1 ([q,p] ++ ctx) p1' (fun z hz=>by rcases List.mem_append.1 hz with hz | hz; exact hm' z hz; exact hc z hz) (by simp; omega)
 have hwc:=Kz6 ctx [q,p] (by simp; omega)
 by_cases f1:x1.ffault=0
 rotate_left
 ·have e1:Kfm (s,q :: p :: ctx,⟨5,(g:Int),ty,[k0,k1]⟩,1)=some ⟨[],[],x1.ffault,1 :: x1.fpath⟩:=V1j (i:=1) rfl r1 (by omega) f1
  refine V1h.bad (f:=x1.ffault) (p:=1 :: x1.fpath) ?_ (V0n (by omega) (o0.trans (V1k (m:=[q,p]) rfl m1 r1 (by omega) (by simp; omega) f1))) f1 (by have:=r1.pl; simp; omega)
  rw [Kfk.eq_def]
  simp [e0,f0,i0,Kfl.eq_def,hcg,hl2,hp0,hp1,hwc,e1,f1]
 obtain ⟨g1,q1,b,nb,lb,bb⟩:=r1.gd f1
 obtain ⟨c1,t1,ht1,hn1,hz1⟩:=V23 hs g1
 have L1:=Kzu g1
 have e1:Kfm (s,q :: p :: ctx,⟨5,(g:Int),ty,[k0,k1]⟩,1)=some x1:=V1i (i:=1) rfl r1 f1
 have lb':b.length=ctx.length + 2:=by rw [lb]; simp
 obtain ⟨u0,u1,b',rfl⟩:∃ u0 u1 b',b=u0 :: u1 :: b':=by match b,lb' with | u0 :: u1 :: b',_=>exact ⟨u0,u1,b',rfl⟩ | [_],h=>simp at h | [],h=>simp at h
 obtain ⟨hu0,bb1⟩:=Kyk bb
 obtain ⟨hu1,bb'⟩:=Kyk bb1
 have o1:=V1n (out:=[y0]) (nd:=[Ky3 a]) (us:=[Ky3 []]) (w:=1) (t:=⟨5,(g:Int),ty,[k0,k1]⟩) (m:=[q,p]) rfl m1 r1 (by simp; omega) f1 (by rw [ht1]; exact V0r (.inr (by decide))) (V0p (show (5:Int) ≠ 10 by decide)) nb (by simp <;> omega) (by simp) (by simp) (by simp) (by simp)
 simp only [List.length_cons,List.length_nil,Nat.zero_add,List.drop_succ_cons,List.drop_zero,List.take_succ_cons,List.take_zero,List.nil_append] at o1
 have hl0:=o0.trans (o1.trans (V0f (Nat.le_refl _)))
 have lbc:b'.length=ctx.length:=by simp at lb'; omega
 have i1:idx x1.fneeds 0=some (u0:Int):=by rw [nb]; rfl
 have hcut:cut x1.fneeds (some (2:Int)) none none=some (Ky3 b'):=by
  rw [nb]
  have:=V0h (l:=Ky3 (u0 :: u1 :: b')) (m:=2) (by simp [Ky3])
  exact this
 have hcp:=Kv2 (Ky3 b') (by rw [Ky4]; omega)
 have i2:idx x1.fneeds 1=some (u1:Int):=by rw [nb]; rfl
 have hle0:=sLe hs.tab hu0 hg
 have hle1:=sLe hs.tab hu1 hg
 have hf:=V1c (ty:=ty) (ks:=[k0,k1]) (ctx:=ctx) (z:=Ky3 (List.replicate ctx.length 0)) (y0:=y0) (y1:=y1) (us':=Ky3 []) (u:=[u0,u1]) hs hg (fun x hx=>by simp at hx; rcases hx with rfl | rfl; exact hu0; exact hu1) (by simp) ba bb' (by omega) (by omega) (by rw [r1.ty]; omega)
 simp only [List.all_cons,List.all_nil,Bool.and_true] at hf
 have es:=e1
 cases hal:(le s n u0 g && le s n u1 g) with
 | false =>
  rw [hal,if_neg (by decide)] at hf
  refine V1h.bad (f:=9) (p:=[]) ?_ (V0o (by omega) hl0 hf) (by decide) (by simp; omega)
  rw [Kfk.eq_def]
  simp [e0,f0,i0,Kfl.eq_def,hcg,hl2,hp0,hp1,hwc,e1,f1,i1,i2,hcut,hcp,hle0,hle1,Ked]
  cases q1:le s n u1 g with
  | false=>simp
  | true=>rw [q1,Bool.and_true] at hal; simp [hal]
 | true =>
  rw [hal,if_pos rfl] at hf
  have im:=V1z (q:=y1.fty) (ns:=Kyg s n (Kyh s n g a) b') (kids:=[y0,y1]) (by rw [r1.ty]; omega) (V0o (by omega) hl0 hf)
  rw [r1.ty] at im
  have lsc:(Kyh s n g a).length=ctx.length:=by unfold Kyh; rw [List.length_map]; exact la
  have hsc:=Kyn hs hg ba
  have hz0:=Kyq hs hsc
  rw [lsc] at hz0
  have hsum:=Kys hs g hg (List.replicate ctx.length 0) a (fun x hx=>by rw [List.eq_of_mem_replicate hx]; exact Kyb hs) ba (by simp; omega) (by simp [la])
  rw [hz0] at hsum
  have hs2:=Kyt hs (Kyh s n g a) b' hsc bb' (by omega) (by omega)
  refine V1h.good (q:=x1.fty) (ns:=Kyg s n (Kyh s n g a) b') (kids:=[y0,y1]) ?_ im (by omega) g1 (by unfold Kyg; rw [List.length_zipWith]; omega) (Kym hs hsc bb') rfl (kd2 (V1g.mk' (V1o (by decide) rfl) r0 f0 (fun _ h=>by cases h) rfl) (V1g.mk' ad r1 f1 hm' rfl))
  rw [Kfk.eq_def]
  rw [Bool.and_eq_true] at hal
  simp [e0,f0,i0,Kfl.eq_def,hcg,hl2,hp0,hp1,hwc,e1,f1,i1,i2,hcut,hcp,hle0,hle1,hal.1,hal.2,na,Kz5 ctx.length (by omega),hsum,hs2]
theorem V2n (ih:V1y s n (tsz (⟨12,N,ty,ks⟩:K01))) (h:tOk (gN s.fSize true) (yN s.fSize true) ctx.length ⟨12,N,ty,ks⟩=true) (hc:∀ q ∈ ctx,TyS s q) (hb:ctx.length + 2 * tsz (⟨12,N,ty,ks⟩:K01) ≤ 1000000):∃ x y,V1h s n ctx ⟨12,N,ty,ks⟩ x y:=by
 obtain ⟨k0,k1,rfl,p0,p1⟩:=nd2 h (Nat.le_refl _) rfl
 have hz:=Kxv 12 N ty k0 k1
 obtain ⟨g,hN,hg⟩:=V06 hs (V08 h rfl)
 simp only at hN
 subst hN
 obtain ⟨x0,y0,r0⟩:=ih k0 ctx p0 hc (by omega)
 by_cases f0:x0.ffault=0
 rotate_left
 ·exact V20 (by decide) (by decide) (by decide) hb r0 f0
 obtain ⟨g0,q0,a,na,la,ba⟩:=r0.gd f0
 obtain ⟨c0,t0,ht0,hn0,hz0⟩:=V23 hs g0
 have L0:=Kzu g0
 have e0:Kfm (s,ctx,⟨12,(g:Int),ty,[k0,k1]⟩,0)=some x0:=V1i (i:=0) rfl r0 f0
 have C:=V2k hs g0 ht0
 have i0:idx x0.fty 0=some c0:=by rw [ht0]; rfl
 by_cases z0:(Kt0 c0).1=4
 rotate_left
 ·have w0:Ksu c0=false:=by cases h:Ksu c0 with | true=>exact absurd (C.boxB.1 h) z0 | false=>rfl
  refine V1h.bad (f:=7) (p:=[]) ?_ (V0n (by omega) (V1l (m:=[]) rfl (V1u (by decide)) r0 (by simp; omega) f0 (by rw [ht0,V0x hs hg,if_neg z0]) (by decide))) (by decide) (by simp; omega)
  rw [Kfk.eq_def]
  simp [e0,f0,i0,Kfl.eq_def,Ksx,w0,Ked]
 obtain ⟨m,p,hm,h15,hcg,hq,P⟩:=C.box z0
 have w0:Ksu c0=true:=C.boxB.2 z0
 have hle:=sLe hs.tab (Kya hs) hg
 cases hl:le s n 1 g with
 | false =>
  have hl2:Kas (s,1,(g:Int))=some false:=by rw [← hl]; exact hle
  refine V1h.bad (f:=8) (p:=[]) ?_ (V0n (by omega) (V1l (m:=[]) rfl (V1u (by decide)) r0 (by simp; omega) f0 (by rw [ht0,V0x hs hg,if_pos z0,hl]; rfl) (by decide))) (by decide) (by simp; omega)
  rw [Kfk.eq_def]
  simp [e0,f0,i0,Kfl.eq_def,Ksx,w0,hl2,Ked]
 | true =>
 have hl2:Kas (s,1,(g:Int))=some true:=by rw [← hl]; exact hle
 have o0:=V1n (out:=[]) (nd:=[]) (us:=[]) (w:=0) (t:=⟨12,(g:Int),ty,[k0,k1]⟩) (m:=[]) rfl (V1u (by decide)) r0 (by simp; omega) f0 (by rw [ht0,V0x hs hg,if_pos z0,hl]; rfl) (V0p (show (12:Int) ≠ 10 by decide)) na (by simp <;> omega) (by simp) (by simp) (by simp) (by simp)
 have hp0:Kex (x0.fty,0)=some p:=by rw [hq,hcg]; exact P.p0
 have ad:Kjy (⟨12,(g:Int),ty,[k0,k1]⟩,((1:Nat):Int),y0.fty)=some [p]:=by rw [r0.ty,hq,hcg]; exact V1t P
 have hm':∀ z ∈ [p],TyS s z:=fun z hz=>by simp at hz; rw [hz]; exact P.ya
 have hgr:Kci c0=some (m:Int):=by rw [hcg]; exact V2i m h15
 have m1:V0c ⟨12,(g:Int),ty,[k0,k1]⟩ [y0] 1=some [p]:=V1w (by decide) ad
 have p1':V07 s ([p] ++ ctx).length k1 (tsz (⟨12,(g:Int),ty,[k0,k1]⟩:K01)):=by
  have e:([p] ++ ctx).length=ctx.length + Ku6 12 1:=by simp [Ku6]
  rw [e]; exact p1
 obtain ⟨x1,y1,r1⟩:=ih k1 ([p] ++ ctx) p1' (fun z hz=>by rcases List.mem_append.1 hz with hz | hz; exact hm' z hz; exact hc z hz) (by simp; omega)
 have hwc:=Kz6 ctx [p] (by simp; omega)
 by_cases f1:x1.ffault=0
 rotate_left
 ·have e1:Kfm (s,p :: ctx,⟨12,(g:Int),ty,[k0,k1]⟩,1)=some ⟨[],[],x1.ffault,1 :: x1.fpath⟩:=V1j (i:=1) rfl r1 (by omega) f1
  refine V1h.bad (f:=x1.ffault) (p:=1 :: x1.fpath) ?_ (V0n (by omega) (o0.trans (V1k (m:=[p]) rfl m1 r1 (by omega) (by simp; omega) f1))) f1 (by have:=r1.pl; simp; omega)
  rw [Kfk.eq_def]
  simp [e0,f0,i0,Kfl.eq_def,Ksx,w0,hl2,hp0,hwc,e1,f1]
 obtain ⟨g1,q1,b,nb,lb,bb⟩:=r1.gd f1
 obtain ⟨c1,t1,ht1,hn1,hz1⟩:=V23 hs g1
 have L1:=Kzu g1
 have e1:Kfm (s,p :: ctx,⟨12,(g:Int),ty,[k0,k1]⟩,1)=some x1:=V1i (i:=1) rfl r1 f1
 have lb':b.length=ctx.length + 1:=by rw [lb]; simp
 obtain ⟨u0,b',rfl⟩:∃ u0 b',b=u0 :: b':=by match b,lb' with | u0 :: b',_=>exact ⟨u0,b',rfl⟩ | [],h=>simp at h
 obtain ⟨hu0,bb'⟩:=Kyk bb
 have o1:=V1n (out:=[y0]) (nd:=[Ky3 a]) (us:=[Ky3 []]) (w:=1) (t:=⟨12,(g:Int),ty,[k0,k1]⟩) (m:=[p]) rfl m1 r1 (by simp; omega) f1 (by rw [ht1]; exact V0r (.inr (by decide))) (V0p (show (12:Int) ≠ 10 by decide)) nb (by simp <;> omega) (by simp) (by simp) (by simp) (by simp)
 simp only [List.length_cons,List.length_nil,Nat.zero_add,List.drop_succ_cons,List.drop_zero,List.take_succ_cons,List.take_zero,List.nil_append] at o1
 have hl0:=o0.trans (o1.trans (V0f (Nat.le_refl _)))
 have lbc:b'.length=ctx.length:=by simp at lb'; omega
 have i1:idx x1.fneeds 0=some (u0:Int):=by rw [nb]; rfl
 have hcut:cut x1.fneeds (some (1:Int)) none none=some (Ky3 b'):=by
  rw [nb]
  have:=V0h (l:=Ky3 (u0 :: b')) (m:=1) (by simp [Ky3])
  exact this
 have hcp:=Kv2 (Ky3 b') (by rw [Ky4]; omega)
 have hmul:=Krz hs.tab hg hm
 have htm:=Kru hs.tab hg hm
 have hle0:=sLe hs.tab hu0 htm
 have hf:=V1d (ty:=ty) (ks:=[k0,k1]) (ctx:=ctx) (z:=Ky3 (List.replicate ctx.length 0)) (y0:=y0) (y1:=y1) (us':=Ky3 []) (u:=[u0]) hs hg hm (p:=p) (by rw [r0.ty,hq,hcg]) (fun x hx=>by simp at hx; rw [hx]; exact hu0) (by simp) ba bb' (by omega) (by omega) (by rw [r1.ty]; omega)
 simp only [List.all_cons,List.all_nil,Bool.and_true] at hf
 have es:=e1
 cases hal:(le s n u0 (ti s n g m)) with
 | false =>
  rw [hal,if_neg (by decide)] at hf
  refine V1h.bad (f:=9) (p:=[]) ?_ (V0o (by omega) hl0 hf) (by decide) (by simp; omega)
  rw [Kfk.eq_def]
  simp [e0,f0,i0,Kfl.eq_def,Ksx,w0,hl2,hp0,hwc,e1,f1,i1,hcut,hcp,hgr,hmul,hle0,hal,Ked]
 | true =>
  rw [hal,if_pos rfl] at hf
  have im:=V1z (q:=y1.fty) (ns:=Kyg s n (Kyh s n g a) b') (kids:=[y0,y1]) (by rw [r1.ty]; omega) (V0o (by omega) hl0 hf)
  rw [r1.ty] at im
  have lsc:(Kyh s n g a).length=ctx.length:=by unfold Kyh; rw [List.length_map]; exact la
  have hsc:=Kyn hs hg ba
  have hz0:=Kyq hs hsc
  rw [lsc] at hz0
  have hsum:=Kys hs g hg (List.replicate ctx.length 0) a (fun x hx=>by rw [List.eq_of_mem_replicate hx]; exact Kyb hs) ba (by simp; omega) (by simp [la])
  rw [hz0] at hsum
  have hs2:=Kyt hs (Kyh s n g a) b' hsc bb' (by omega) (by omega)
  refine V1h.good (q:=x1.fty) (ns:=Kyg s n (Kyh s n g a) b') (kids:=[y0,y1]) ?_ im (by omega) g1 (by unfold Kyg; rw [List.length_zipWith]; omega) (Kym hs hsc bb') rfl (kd2 (V1g.mk' (V1o (by decide) rfl) r0 f0 (fun _ h=>by cases h) rfl) (V1g.mk' ad r1 f1 hm' rfl))
  rw [Kfk.eq_def]
  simp [e0,f0,i0,Kfl.eq_def,Ksx,w0,hl2,hp0,hwc,e1,f1,i1,hcut,hcp,hgr,hmul,hle0,hal,na,Kz5 ctx.length (by omega),hsum,hs2]
theorem V2o (ih:V1y s n (tsz (⟨8,N,ty,ks⟩:K01))) (h:tOk (gN s.fSize true) (yN s.fSize true) ctx.length ⟨8,N,ty,ks⟩=true) (hc:∀ q ∈ ctx,TyS s q) (hb:ctx.length + 2 * tsz (⟨8,N,ty,ks⟩:K01) ≤ 1000000):∃ x y,V1h s n ctx ⟨8,N,ty,ks⟩ x y:=by
 obtain ⟨k0,k1,k2,rfl,p0,p1,p2⟩:=nd3 h (Nat.le_refl _) rfl
 have hz:=Kxw 8 N ty k0 k1 k2
 obtain ⟨g,hN,hg⟩:=V06 hs (V08 h rfl)
 simp only at hN
 subst hN
 obtain ⟨x0,y0,r0⟩:=ih k0 ctx p0 hc (by omega)
 by_cases f0:x0.ffault=0
 rotate_left
 ·exact V20 (by decide) (by decide) (by decide) hb r0 f0
 obtain ⟨g0,q0,a,na,la,ba⟩:=r0.gd f0
 obtain ⟨c0,t0,ht0,hn0,hz0⟩:=V23 hs g0
 have L0:=Kzu g0
 have e0:Kfm (s,ctx,⟨8,(g:Int),ty,[k0,k1,k2]⟩,0)=some x0:=V1i (i:=0) rfl r0 f0
 have C:=V2k hs g0 ht0
 have i0:idx x0.fty 0=some c0:=by rw [ht0]; rfl
 by_cases z0:(Kt0 c0).1=2
 rotate_left
 ·have w0:c0 ≠ 2:=fun h=>z0 (C.two.1 h)
  refine V1h.bad (f:=5) (p:=[]) ?_ (V0n (by omega) (V1l (m:=[]) rfl (V1u (by decide)) r0 (by simp; omega) f0 (by rw [ht0,V0w hs hg,if_neg z0]) (by decide))) (by decide) (by simp; omega)
  rw [Kfk.eq_def]
  simp [e0,f0,i0,Kfl.eq_def,w0,Ked]
 obtain ⟨p,q,hcg,hq,P⟩:=C.sum z0
 have hle:=sLe hs.tab (Kya hs) hg
 cases hl:le s n 1 g with
 | false =>
  have hl2:Kas (s,1,(g:Int))=some false:=by rw [← hl]; exact hle
  refine V1h.bad (f:=8) (p:=[]) ?_ (V0n (by omega) (V1l (m:=[]) rfl (V1u (by decide)) r0 (by simp; omega) f0 (by rw [ht0,V0w hs hg,if_pos z0,hl]; rfl) (by decide))) (by decide) (by simp; omega)
  rw [Kfk.eq_def]
  simp [e0,f0,i0,Kfl.eq_def,hcg,hl2,Ked]
 | true =>
 have hl2:Kas (s,1,(g:Int))=some true:=by rw [← hl]; exact hle
 have o0:=V1n (out:=[]) (nd:=[]) (us:=[]) (w:=0) (t:=⟨8,(g:Int),ty,[k0,k1,k2]⟩) (m:=[]) rfl (V1u (by decide)) r0 (by simp; omega) f0 (by rw [ht0,V0w hs hg,if_pos z0,hl]; rfl) (V0p (show (8:Int) ≠ 10 by decide)) na (by simp <;> omega) (by simp) (by simp) (by simp) (by simp)
 have hp0:Kex (x0.fty,0)=some p:=by rw [hq,hcg]; exact P.p0
 have hp1:Kex (x0.fty,1)=some q:=by rw [hq,hcg]; exact P.p1
 have ad1:Kjy (⟨8,(g:Int),ty,[k0,k1,k2]⟩,((1:Nat):Int),y0.fty)=some [p]:=by rw [r0.ty,hq,hcg]; exact V1r P
 have ad2:Kjy (⟨8,(g:Int),ty,[k0,k1,k2]⟩,((2:Nat):Int),y0.fty)=some [q]:=by rw [r0.ty,hq,hcg]; exact V1s P
 have hm1:∀ z ∈ [p],TyS s z:=fun z hz=>by simp at hz; rw [hz]; exact P.ya
 have hm2:∀ z ∈ [q],TyS s z:=fun z hz=>by simp at hz; rw [hz]; exact P.yb
 have m1:V0c ⟨8,(g:Int),ty,[k0,k1,k2]⟩ [y0] 1=some [p]:=V1w (by decide) ad1
 have p1':V07 s ([p] ++ ctx).length k1 (tsz (⟨8,(g:Int),ty,[k0,k1,k2]⟩:K01)):=by
  have e:([p] ++ ctx).length=ctx.length + Ku6 8 1:=by simp [Ku6]
  rw [e]; exact p1
 obtain ⟨x1,y1,r1⟩:=ih k1 ([p] ++ ctx) p1' (fun z hz=>by rcases List.mem_append.1 hz with hz | hz; exact hm1 z hz; exact hc z hz) (by simp; omega)
 have hw1:=Kz6 ctx [p] (by simp; omega)
 by_cases f1:x1.ffault=0
 rotate_left
 ·have e1:Kfm (s,p :: ctx,⟨8,(g:Int),ty,[k0,k1,k2]⟩,1)=some ⟨[],[],x1.ffault,1 :: x1.fpath⟩:=V1j (i:=1) rfl r1 (by omega) f1
  refine V1h.bad (f:=x1.ffault) (p:=1 :: x1.fpath) ?_ (V0n (by omega) (o0.trans (V1k (m:=[p]) rfl m1 r1 (by omega) (by simp; omega) f1))) f1 (by have:=r1.pl; simp; omega)
  rw [Kfk.eq_def]
  simp [e0,f0,i0,Kfl.eq_def,hcg,hl2,hp0,hp1,hw1,e1,f1]
 obtain ⟨g1,q1,b,nb,lb,bb⟩:=r1.gd f1
 obtain ⟨c1,t1,ht1,hn1,hz1⟩:=V23 hs g1
 have L1:=Kzu g1
 have e1:Kfm (s,p :: ctx,⟨8,(g:Int),ty,[k0,k1,k2]⟩,1)=some x1:=V1i (i:=1) rfl r1 f1
 have lb':b.length=ctx.length + 1:=by rw [lb]; simp
 obtain ⟨u0,b',rfl⟩:∃ u0 b',b=u0 :: b':=by match b,lb' with | u0 :: b',_=>exact ⟨u0,b',rfl⟩ | [],h=>simp at h
 obtain ⟨hu0,bb'⟩:=Kyk bb
 have lbc:b'.length=ctx.length:=by simp at lb'; omega
 have i1:idx x1.fneeds 0=some (u0:Int):=by rw [nb]; rfl
 have hcut1:cut x1.fneeds (some (1:Int)) none none=some (Ky3 b'):=by rw [nb]; exact Kxd _ _
 have hcp1:=Kv2 (Ky3 b') (by rw [Ky4]; omega)
 have o1:=V1n (out:=[y0]) (nd:=[Ky3 a]) (us:=[Ky3 []]) (w:=1) (t:=⟨8,(g:Int),ty,[k0,k1,k2]⟩) (m:=[p]) rfl m1 r1 (by simp; omega) f1 (by rw [ht1]; exact V0r (.inr (by decide))) (V0p (show (8:Int) ≠ 10 by decide)) nb (by simp <;> omega) (by simp) (by simp) (by simp) (by simp)
 simp only [List.length_cons,List.length_nil,Nat.zero_add,List.drop_succ_cons,List.drop_zero,List.take_succ_cons,List.take_zero,List.nil_append,List.cons_append] at o1
 have m2:V0c ⟨8,(g:Int),ty,[k0,k1,k2]⟩ [y0,y1] 2=some [q]:=V1w (by decide) ad2
 have p2':V07 s ([q] ++ ctx).length k2 (tsz (⟨8,(g:Int),ty,[k0,k1,k2]⟩:K01)):=by
  have e:([q] ++ ctx).length=ctx.length + Ku6 8 2:=by simp [Ku6]
  rw [e]; exact p2
 obtain ⟨x2,y2,r2⟩:=ih k2 ([q] ++ ctx) p2' (fun z hz=>by rcases List.mem_append.1 hz with hz | hz; exact hm2 z hz; exact hc z hz) (by simp; omega)
 have hw2:=Kz6 ctx [q] (by simp; omega)
 by_cases f2:x2.ffault=0
 rotate_left
 ·have e2:Kfm (s,q :: ctx,⟨8,(g:Int),ty,[k0,k1,k2]⟩,2)=some ⟨[],[],x2.ffault,2 :: x2.fpath⟩:=V1j (i:=2) rfl r2 (by omega) f2
  refine V1h.bad (f:=x2.ffault) (p:=2 :: x2.fpath) ?_ (V0n (by omega) (o0.trans (o1.trans (V1k (m:=[q]) rfl m2 r2 (by omega) (by simp; omega) f2)))) f2 (by have:=r2.pl; simp; omega)
  rw [Kfk.eq_def]
  simp [e0,f0,i0,Kfl.eq_def,hcg,hl2,hp0,hp1,hw1,e1,f1,hcut1,hcp1,hw2,e2,f2]
 obtain ⟨g2,q2,d,nd,ld,bd⟩:=r2.gd f2
 obtain ⟨c2,t2,ht2,hn2,hz2⟩:=V23 hs g2
 have L2:=Kzu g2
 have e2:Kfm (s,q :: ctx,⟨8,(g:Int),ty,[k0,k1,k2]⟩,2)=some x2:=V1i (i:=2) rfl r2 f2
 have ld':d.length=ctx.length + 1:=by rw [ld]; simp
 obtain ⟨v0,d',rfl⟩:∃ v0 d',d=v0 :: d':=by match d,ld' with | v0 :: d',_=>exact ⟨v0,d',rfl⟩ | [],h=>simp at h
 obtain ⟨hv0,bd'⟩:=Kyk bd
 have ldc:d'.length=ctx.length:=by simp at ld'; omega
 have i2:idx x2.fneeds 0=some (v0:Int):=by rw [nd]; rfl
 have hcut2:cut x2.fneeds (some (1:Int)) none none=some (Ky3 d'):=by rw [nd]; exact Kxd _ _
 have o2:=V1n (out:=[y0,y1]) (nd:=[Ky3 a,Ky3 b']) (us:=[Ky3 [],Ky3 [u0]]) (w:=2) (t:=⟨8,(g:Int),ty,[k0,k1,k2]⟩) (m:=[q]) rfl m2 r2 (by simp; omega) f2 (by rw [ht2]; exact V0r (.inr (by decide))) (V0p (show (8:Int) ≠ 10 by decide)) nd (by simp <;> omega) (by simp) (by simp) (by simp) (by simp)
 simp only [List.length_cons,List.length_nil,Nat.zero_add,List.drop_succ_cons,List.drop_zero,List.take_succ_cons,List.take_zero,List.nil_append,List.cons_append] at o2
 have hl0:=o0.trans (o1.trans (o2.trans (V0f (Nat.le_refl _))))
 have hle0:=sLe hs.tab hu0 hg
 have hle1:=sLe hs.tab hv0 hg
 have hf:=V1e (ty:=ty) (ks:=[k0,k1,k2]) (ctx:=ctx) (z:=Ky3 (List.replicate ctx.length 0)) (y0:=y0) (y1:=y1) (y2:=y2) (us':=Ky3 []) (u:=[u0]) (v:=[v0]) hs hg (fun x hx=>by simp at hx; rw [hx]; exact hu0) (by simp) (fun x hx=>by simp at hx; rw [hx]; exact hv0) (by simp) ba bb' bd' (by omega) (by omega) (by omega) (by rw [r2.ty]; omega) (by rw [r1.ty]; omega)
 simp only [List.all_cons,List.all_nil,Bool.and_true] at hf
 rw [r1.ty,r2.ty] at hf
 have hsm:=Kxm x1.fty x2.fty (by omega)
 have hj:=Kyv hs b' d' bb' bd' (by omega) (by omega)
 have lj:(Kyi s n b' d').length=ctx.length:=by unfold Kyi; rw [List.length_zipWith]; omega
 by_cases hqq:x1.fty=x2.fty
 rotate_left
 ·rw [if_neg hqq] at hf
  rw [show (x1.fty == x2.fty)=false from beq_eq_false_iff_ne.2 hqq] at hsm
  refine V1h.bad (f:=3) (p:=[]) ?_ (V0o (by omega) hl0 hf) (by decide) (by simp; omega)
  rw [Kfk.eq_def]
  simp [e0,f0,i0,Kfl.eq_def,hcg,hl2,hp0,hp1,hw1,e1,f1,hcut1,hcp1,hw2,e2,f2,hsm,Ked]
 rw [if_pos hqq] at hf
 rw [show (x1.fty == x2.fty)=true from beq_iff_eq.2 hqq] at hsm
 by_cases hal:le s n u0 g=true∧le s n v0 g=true
 rotate_left
 ·rw [if_neg hal] at hf
  refine V1h.bad (f:=9) (p:=[]) ?_ (V0o (by omega) hl0 hf) (by decide) (by simp; omega)
  rw [Kfk.eq_def]
  simp [e0,f0,i0,Kfl.eq_def,hcg,hl2,hp0,hp1,hw1,e1,f1,hcut1,hcp1,hw2,e2,f2,hsm,i1,i2,hle0,hle1,hcut2,hj,Ked]
  cases q1:le s n v0 g with
  | false=>simp
  | true =>
   cases q2:le s n u0 g with
   | false=>simp
   | true=>exact absurd ⟨q2,q1⟩ hal
 rw [if_pos hal] at hf
 have im:=V1z (q:=x1.fty) (ns:=Kyg s n (Kyh s n g a) (Kyi s n b' d')) (kids:=[y0,y1,y2]) (by omega) (V0o (by omega) hl0 hf)
 have lsc:(Kyh s n g a).length=ctx.length:=by unfold Kyh; rw [List.length_map]; exact la
 have hsc:=Kyn hs hg ba
 have hz0:=Kyq hs hsc
 rw [lsc] at hz0
 have hsum:=Kys hs g hg (List.replicate ctx.length 0) a (fun x hx=>by rw [List.eq_of_mem_replicate hx]; exact Kyb hs) ba (by simp; omega) (by simp [la])
 rw [hz0] at hsum
 have hs2:=Kyt hs (Kyh s n g a) (Kyi s n b' d') hsc (Kyo hs bb' bd') (by omega) (by omega)
 refine V1h.good (q:=x1.fty) (ns:=Kyg s n (Kyh s n g a) (Kyi s n b' d')) (kids:=[y0,y1,y2]) ?_ im (by omega) g1 (by unfold Kyg; rw [List.length_zipWith]; omega) (Kym hs hsc (Kyo hs bb' bd')) rfl (kd3 (V1g.mk' (V1o (by decide) rfl) r0 f0 (fun _ h=>by cases h) rfl) (V1g.mk' ad1 r1 f1 hm1 rfl) (V1g.mk' ad2 r2 f2 hm2 rfl))
 rw [Kfk.eq_def]
 simp [e0,f0,i0,Kfl.eq_def,hcg,hl2,hp0,hp1,hw1,e1,f1,hcut1,hcp1,hw2,e2,f2,hsm,i1,i2,hle0,hle1,hal.1,hal.2,hcut2,hj,na,Kz5 ctx.length (by omega),hsum,hs2]
theorem V2p:∀ (m:Nat) (t:K01) (ctx:List (List Int)),tsz t ≤ m→tOk (gN s.fSize true) (yN s.fSize true) ctx.length t=true→(∀ q ∈ ctx,TyS s q)→ctx.length + 2 * tsz t ≤ 1000000→∃ x y,V1h s n ctx t x y
 | 0,t,ctx,hm,_,_,_=>by obtain ⟨op,N,ty,ks⟩:=t; rw [tsz] at hm; omega
 | m + 1,t,ctx,hm,h,hc,hb=>by
  have ih:V1y s n (tsz t):=fun k c hk hc hb=>V2p m k c (by have:=hk.sz; omega) hk.ok hc hb
  obtain ⟨op,N,ty,ks⟩:=t
  have hop:=(Kv1 (Kuz h).1).1
  simp only at hop
  rcases Ku0 hop with rfl | rfl | rfl | rfl | rfl | rfl | rfl | rfl | rfl | rfl | rfl | rfl | rfl
  ·exact V21 hs rfl h hc hb
  ·exact V22 hs rfl h hb
  ·exact V29 hs ih h hc hb
  ·exact V2a hs ih h hc hb
  ·exact V28 hs ih h hc hb
  ·exact V2m hs ih h hc hb
  ·exact V24 hs ih h hc hb
  ·exact V25 hs ih h hc hb
  ·exact V2o hs ih h hc hb
  ·exact V27 hs ih h hc hb
  ·exact V2l hs ih h hc hb
  ·exact V26 hs ih h hc hb
  ·exact V2n hs ih h hc hb
end
theorem V2q {l:List (List Int)} {v:List Int} (h:v ∈ l):v.length ≤ lms l:=by
 have:=Kx8 h
 unfold lms; omega
theorem V2r {s:K00} {ctx:List (List Int)} {t:K01} (h:Kzr s ctx t=true):Ky8 s s.fSize.toNat∧ctx.length ≤ 8∧(∀ q ∈ ctx,TyS s q)∧tsz t ≤ 400∧tOk (gN s.fSize true) (yN s.fSize true) ctx.length t=true:=by
 unfold Kzr Kzh Kxs at h
 simp only [Bool.and_eq_true,decide_eq_true_eq,List.all_eq_true] at h
 exact ⟨Ky9 h.1.1,h.1.2.1,fun q hq=>h.1.2.2 q hq,h.2.1.2,h.2.2⟩
theorem V2s {s:K00} {ctx:List (List Int)} {t:K01} (h:Kzr s ctx t=true):∃ x y,V1h s s.fSize.toNat ctx t x y:=by
 obtain ⟨h1,h2,h3,h4,h5⟩:=V2r h
 exact V2p h1 (tsz t) t ctx (Nat.le_refl _) h5 h3 (by omega)
theorem V2t {s:K00} {ctx:List (List Int)} {t:K01} (hc:lms ctx ≤ 1048576) (ht:tms t ≤ 1099511627776) :
  (Kzr s ctx t=false∧Ke1 (s,ctx,t)=some false∧Kne (s,ctx,t)=some none) ∨
  (Kzr s ctx t=true∧Ke1 (s,ctx,t)=some true∧∃ x y,V1h s s.fSize.toNat ctx t x y∧Kne (s,ctx,t)=some (some y)):=by
 have hl:∀ ty ∈ ctx,ty.length ≤ 1099511627776:=fun ty h=>by have:=V2q h; omega
 have hc':ctx.length ≤ 1048576:=by unfold lms at hc; omega
 have h1:=Kzs s ctx t hc' hl ht
 have h2:=Kzt s ctx t hc' hl ht
 cases h:Kzr s ctx t with
 | false=>rw [h] at h1 h2; exact .inl ⟨rfl,h1,by simpa using h2⟩
 | true =>
  rw [h] at h1 h2
  obtain ⟨x,y,r⟩:=V2s h
  refine .inr ⟨rfl,h1,x,y,r,?_⟩
  rw [if_pos rfl,r.im,bs] at h2
  exact h2
theorem V2u (s:K00) (ctx:List (List Int)) (t:K01) (hc:lms ctx ≤ 1048576) (ht:tms t ≤ 1099511627776) :
  (Kfy (s,ctx,t)=some ([],[],false)∧Knh (s,ctx,t)=some ([],[],false)∧(Kzr s ctx t=false∨∃ x y,V1h s s.fSize.toNat ctx t x y∧x.ffault ≠ 0)) ∨
  ∃ x y,V1h s s.fSize.toNat ctx t x y∧x.ffault=0∧Kzr s ctx t=true∧Kfy (s,ctx,t)=some (x.fty,x.fneeds,true)∧Knh (s,ctx,t)=some (x.fty,x.fneeds,true)∧Kne (s,ctx,t)=some (some y):=by
 unfold Kfy Knh
 simp only
 rcases V2t (s:=s) hc ht with ⟨h0,h1,h2⟩ | ⟨h0,h1,x,y,r,h2⟩
 ·rw [h1,h2]
  exact .inl ⟨rfl,rfl,.inl h0⟩
 ·rw [h1,h2,bs,bs,if_pos rfl,r.sp,bs]
  by_cases hf:x.ffault=0
  ·obtain ⟨g,_,ns,hn,hl,_⟩:=r.gd hf
   have:=Kzu g
   obtain ⟨_,h8,_⟩:=V2r h0
   refine .inr ⟨x,y,r,hf,h0,by rw [if_neg (by simp [hf])],?_,rfl⟩
   simp only
   rw [if_neg (by rw [r.fa]; simp [hf]),r.ty,Kv3 x.fty (by omega),bs,r.ne,Kv3 x.fneeds (by rw [hn,Ky4]; omega),bs]
  ·refine .inl ⟨by rw [if_pos (bne_iff_ne.2 hf)],?_,.inr ⟨x,y,r,hf⟩⟩
   simp only
   rw [if_pos (by rw [r.fa]; exact bne_iff_ne.2 hf)]
def V2v (s:K00) (n:Nat) (x:Nat) (g:Int):Bool:=Kvy s g && le s n x g.toNat
def V2w (s:K00) (n:Nat) (a:List Nat) (b:List Int):Bool:=(List.zipWith (V2v s n) a b).all id
section
variable {s:K00} {n:Nat} (hs:Ky8 s n)
include hs
theorem V2x {g:Int} (h:Kvy s g=true):∃ k:Nat,g=(k:Int)∧k < n:=V06 hs (by rw [← Kzp hs.tab]; exact h)
theorem V2y (a:List Nat) (b:List Int) (ha:Kyj n a) (hl:a.length ≤ 1048576):∀ (al:List Nat) (bl:List Int) (i:Nat),a.drop i=al→b.drop i=bl→al.length=bl.length →
  Kg2 (s,Ky3 a,b,(i:Int))=some (if V2w s n al bl then .inl () else .inr false):=by
 intro al
 induction al with
 | nil =>
  intro bl i hd hd2 he
  rw [Kg2.eq_def]
  simp only
  rw [Ky4,Kre (Kss hd)]
  rfl
 | cons x al ih =>
  intro bl i hd hd2 he
  obtain ⟨h1,h2,h3⟩:=Ky7 hd
  have hx:x < n:=Kyl ha i x (by rw [hd]; exact List.mem_cons_self)
  match bl,he,hd2 with
  | g :: bl,he,hd2 =>
  obtain ⟨k1,k2,k3⟩:=Ksr hd2
  rw [Kg2.eq_def]
  simp only
  rw [Ky4,Krd h1,if_pos rfl,k2,bs,sIn,bs]
  have e:V2w s n (x :: al) (g :: bl)=(V2v s n x g && V2w s n al bl):=rfl
  rw [e]
  unfold V2v
  cases hg:Kvy s g with
  | false =>
   unfold Kvy at hg
   rw [hg]
   rfl
  | true =>
   obtain ⟨k,rfl,hk⟩:=V2x hs hg
   have hg':=hg
   unfold Kvy at hg
   rw [hg,if_pos rfl,h2,bs,bs,sLe hs.tab hx hk,bs,bs,Int.toNat_natCast,Bool.true_and]
   cases hle:le s n x k with
   | false=>rfl
   | true =>
    rw [if_neg (by decide),Krc (by omega),ih bl (i + 1) h3 k3 (by simpa using he),Bool.true_and]
theorem V2z (a:List Nat) (b:List Int) (ha:Kyj n a) (hl:b.length ≤ 1048576):∀ (al:List Nat) (bl:List Int) (i:Nat),a.drop i=al→b.drop i=bl→al.length=bl.length →
  Knl (s,b,Ky3 a,(i:Int))=some (if V2w s n al bl then .inl () else .inr false):=by
 intro al
 induction al with
 | nil =>
  intro bl i hd hd2 he
  match bl,he,hd2 with
  | [],he,hd2 =>
  rw [Knl.eq_def]
  simp only
  rw [Kre (Kss hd2)]
  rfl
 | cons x al ih =>
  intro bl i hd hd2 he
  obtain ⟨h1,h2,h3⟩:=Ky7 hd
  have hx:x < n:=Kyl ha i x (by rw [hd]; exact List.mem_cons_self)
  match bl,he,hd2 with
  | g :: bl,he,hd2 =>
  obtain ⟨k1,k2,k3⟩:=Ksr hd2
  rw [Knl.eq_def]
  simp only
  rw [Krd k1,if_pos rfl,k2,bs,Kvz,bs]
  have e:V2w s n (x :: al) (g :: bl)=(V2v s n x g && V2w s n al bl):=rfl
  rw [e]
  unfold V2v
  cases hg:Kvy s g with
  | false=>rfl
  | true =>
   obtain ⟨k,rfl,hk⟩:=V2x hs hg
   rw [if_pos rfl,h2,bs,iLe hs.tab hx hk,bs,bs,Int.toNat_natCast,Bool.true_and]
   cases hle:le s n x k with
   | false=>rfl
   | true =>
    rw [if_neg (by decide),Krc (by omega),ih bl (i + 1) h3 k3 (by simpa using he),Bool.true_and]
theorem V30 (a:List Nat) (b:List Int) (ha:Kyj n a) (hl:a.length ≤ 1048576):Kg5 (s,Ky3 a,b)=some (decide (a.length=b.length) && V2w s n a b):=by
 unfold Kg5
 simp only
 rw [Ky4]
 by_cases h:a.length=b.length
 ·rw [if_neg (by simp [h]),show (0:Int)=((0:Nat):Int) from rfl,V2y hs a b ha hl a b 0 rfl rfl h,bs,decide_eq_true h,Bool.true_and]
  cases V2w s n a b <;> rfl
 ·rw [if_pos (bne_iff_ne.2 (by omega)),decide_eq_false h,Bool.false_and]
end
theorem V31 (x0:K00) (x1:List (List Int)) (x2:List Int) (x3:K01) (x4:List Int) (b0:sms x0 ≤ 1048576) (b1:lms x1 ≤ 1048576) (b2:x2.length ≤ 1048576) (b3:tms x3 ≤ 1048576) (h3:tln x3) (b4:x4.length ≤ 1048576) :
  ∃ w0,Kg8 (x0,x1,x2,x3,x4)=some w0∧Kno (x0,x1,x2,x3,x4)=some w0∧(w0=true→x1.length=x2.length):=by
 unfold Kg8 Kno
 simp only
 rcases V2u x0 x1 x3 b1 (by omega) with ⟨h1,h2,_⟩ | ⟨x,y,r,hf,hi,h1,h2,_⟩
 ·rw [h1,h2]
  exact ⟨false,rfl,rfl,fun h=>by cases h⟩
 ·obtain ⟨g,_,ns,hn,hl,hb⟩:=r.gd hf
  obtain ⟨hs,h8,_⟩:=V2r hi
  rw [h1,h2]
  simp only [bs,if_true]
  rw [Kxm x.fty x4 (by omega),Kxo x.fty x4 (by omega),bs,bs,hn]
  cases x.fty == x4 with
  | false=>exact ⟨false,rfl,rfl,fun h=>by cases h⟩
  | true =>
   rw [if_pos rfl,if_pos rfl,V30 hs ns x2 hb (by omega),bs,bs,bs]
   refine ⟨_,rfl,?_,fun h=>by simp at h; omega⟩
   by_cases h:ns.length=x2.length
   ·rw [if_neg (by simp; omega),show (0:Int)=((0:Nat):Int) from rfl,V2z hs ns x2 hb b2 ns x2 0 rfl rfl h,bs,decide_eq_true h,Bool.true_and]
    cases V2w x0 x0.fSize.toNat ns x2 <;> rfl
   ·rw [if_pos (bne_iff_ne.2 (by omega)),decide_eq_false h,Bool.false_and]
theorem V32 (t:K01):(⟨t.fOp,t.fN,t.fType,t.fKids⟩:K01)=t:=by cases t; rfl
def clT:List (List Int)→List Int→K01→K01
 | c :: cs,b :: bs,t=>clT cs bs ⟨9,b,c,[t]⟩
 | _,_,t=>t
theorem V33:∀ (cs:List (List Int)) (bs:List Int) (t:K01),tms (clT cs bs t) ≤ tms t + 4 * cs.length + lct cs
 | c :: cs,b :: bs,t=>by
  have:=V33 cs bs ⟨9,b,c,[t]⟩
  rw [clT]
  simp [tms,Kto,lct] at this ⊢
  omega
 | [],_,t=>by simp [clT]
 | c :: cs,[],t=>by simp [clT]; omega
theorem V34 (ctx:List (List Int)) (bud:List Int) (hc:ctx.length ≤ 1048576) (hl:∀ q ∈ ctx,q.length ≤ 1048576) (hb:ctx.length=bud.length):∀ (cs:List (List Int)) (bs:List Int) (i:Nat) (t:K01),ctx.drop i=cs→bud.drop i=bs →
  Kgn (ctx,bud,t.fOp,t.fN,t.fType,t.fKids,(i:Int))=some ((clT cs bs t).fOp,(clT cs bs t).fN,(clT cs bs t).fType,(clT cs bs t).fKids):=by
 intro cs
 induction cs with
 | nil =>
  intro bs i t hd hd2
  rw [Kgn.eq_def]
  simp only
  rw [Kre (Kss hd)]
  simp [clT]
 | cons c cs ih =>
  intro bs i t hd hd2
  obtain ⟨h1,h2,h3⟩:=Ksr hd
  match bs,hd2 with
  | [],hd2=>have:=Kss hd2; omega
  | b :: bs,hd2 =>
  obtain ⟨k1,k2,k3⟩:=Ksr hd2
  have hx:c ∈ ctx:=List.mem_of_mem_drop (i:=i) (by rw [hd]; exact List.mem_cons_self)
  have:=hl c hx
  obtain ⟨op,N,ty,ks⟩:=t
  have ih':=ih bs (i + 1) ⟨9,b,c,[⟨op,N,ty,ks⟩]⟩ h3 k3
  rw [Kgn.eq_def]
  simp only
  rw [Krd h1,if_pos rfl,k2,Go.Am.bs,h2,Go.Am.bs,Kv2 c (by omega),Go.Am.bs,Krc (by omega),show clT (c :: cs) (b :: bs) ⟨op,N,ty,ks⟩=clT cs bs ⟨9,b,c,[⟨op,N,ty,ks⟩]⟩ from by rw [clT]]
  exact ih'
theorem V35 (ctx:List (List Int)) (bud:List Int) (hc:ctx.length ≤ 1048576) (hl:∀ q ∈ ctx,q.length ≤ 1048576) (hb:ctx.length=bud.length):∀ (cs:List (List Int)) (bs:List Int) (i:Nat) (t:K01),ctx.drop i=cs→bud.drop i=bs →
  Koj (ctx,bud,t.fOp,t.fN,t.fType,t.fKids,(i:Int))=some ((clT cs bs t).fOp,(clT cs bs t).fN,(clT cs bs t).fType,(clT cs bs t).fKids):=by
 intro cs
 induction cs with
 | nil =>
  intro bs i t hd hd2
  have:=Kss hd
  rw [Koj.eq_def]
  simp only
  rw [Kre (by omega)]
  simp [clT]
 | cons c cs ih =>
  intro bs i t hd hd2
  obtain ⟨h1,h2,h3⟩:=Ksr hd
  match bs,hd2 with
  | [],hd2=>have:=Kss hd2; omega
  | b :: bs,hd2 =>
  obtain ⟨k1,k2,k3⟩:=Ksr hd2
  have hx:c ∈ ctx:=List.mem_of_mem_drop (i:=i) (by rw [hd]; exact List.mem_cons_self)
  have:=hl c hx
  obtain ⟨op,N,ty,ks⟩:=t
  have ih':=ih bs (i + 1) ⟨9,b,c,[⟨op,N,ty,ks⟩]⟩ h3 k3
  rw [Koj.eq_def]
  simp only
  rw [Krd k1,if_pos rfl,k2,Go.Am.bs,h2,Go.Am.bs,Kv3 c (by omega),Go.Am.bs,Krc (by omega),show clT (c :: cs) (b :: bs) ⟨op,N,ty,ks⟩=clT cs bs ⟨9,b,c,[⟨op,N,ty,ks⟩]⟩ from by rw [clT]]
  exact ih'
theorem V36 (x0:K00) (x1:List (List Int)) (x2:List Int) (x3:K01) (b0:sms x0 ≤ 1048576) (b1:lms x1 ≤ 1048576) (b2:x2.length ≤ 1048576) (b3:tms x3 ≤ 1048576) (h3:tln x3) :
  ∃ w0 w1,Kgq (x0,x1,x2,x3)=some (w0,w1)∧Kom (x0,x1,x2,x3)=some (w0,w1)∧tms w0 ≤ 1099511627776:=by
 have nothing:tms (⟨0,0,[],[]⟩:K01) ≤ 1099511627776:=by simp [tms,Kto]
 rcases V2u x0 x1 x3 b1 (by omega) with ⟨h1,h2,_⟩ | ⟨x,y,r,hf,hi,h1,h2,_⟩
 ·unfold Kgq Kom
  simp only
  rw [h1,h2]
  exact ⟨_,_,rfl,rfl,nothing⟩
 ·obtain ⟨g,_,ns,hn,hl,hb⟩:=r.gd hf
  have:=Kzu g
  obtain ⟨w,f1,f2,f3⟩:=V31 x0 x1 x2 x3 x.fty b0 b1 b2 b3 h3 (by omega)
  have a1:Kgq (x0,x1,x2,x3)=if w=true then (Kgn (x1,x2,x3.fOp,x3.fN,x3.fType,x3.fKids,0) >>= fun q=>Kgb ⟨q.1,q.2.1,q.2.2.1,q.2.2.2⟩ >>= fun b=>if b=true then Kgf (⟨q.1,q.2.1,q.2.2.1,q.2.2.2⟩,0,0) >>= fun u=>some (u,true) else some (⟨0,0,[],[]⟩,false)) else some (⟨0,0,[],[]⟩,false):=by
   unfold Kgq
   simp only
   rw [h1,bs]
   dsimp only
   rw [if_pos rfl,f1,bs,bs]
   cases w <;> rfl
  have a2:Kom (x0,x1,x2,x3)=if w=true then (Kns x3 >>= fun z=>Koj (x1,x2,z.fOp,z.fN,z.fType,z.fKids,0) >>= fun q=>Kof ⟨q.1,q.2.1,q.2.2.1,q.2.2.2⟩ >>= fun b=>if b=true then some (⟨q.1,q.2.1,q.2.2.1,q.2.2.2⟩,true) else some (⟨0,0,[],[]⟩,false)) else some (⟨0,0,[],[]⟩,false):=by
   unfold Kom
   simp only
   rw [h2,bs]
   dsimp only
   rw [if_pos rfl,f2,bs,bs]
   cases w <;> rfl
  rw [a1,a2]
  cases w with
  | false=>exact ⟨_,_,rfl,rfl,nothing⟩
  | true =>
   have e:=f3 rfl
   have hq:∀ q ∈ x1,q.length ≤ 1048576:=fun q h=>by have:=V2q h; omega
   have hx1:x1.length ≤ 1048576:=by unfold lms at b1; omega
   have c1:=V34 x1 x2 hx1 hq e x1 x2 0 x3 rfl rfl
   have c2:=V35 x1 x2 hx1 hq e x1 x2 0 x3 rfl rfl
   have c3:=V33 x1 x2 x3
   have c4:tms (clT x1 x2 x3) ≤ 1099511627776:=by unfold lms at b1; omega
   rw [show ((0:Nat):Int)=0 from rfl] at c1 c2
   rw [if_pos rfl,if_pos rfl,c1,Kwd x3 (by omega),bs,bs,c2,bs]
   simp only
   rw [show (⟨(clT x1 x2 x3).fOp,(clT x1 x2 x3).fN,(clT x1 x2 x3).fType,(clT x1 x2 x3).fKids⟩:K01)=clT x1 x2 x3 from V32 _,Kuo _ c4,Kun _ c4,bs,bs]
   cases hw:wB (clT x1 x2 x3) with
   | false=>exact ⟨_,_,rfl,rfl,nothing⟩
   | true =>
    rw [if_pos rfl,if_pos rfl]
    have:=Kwr (Kwl (by omega) _ (Kwq hw)) c4
    refine ⟨clT x1 x2 x3,true,?_,rfl,c4⟩
    rw [this,bs]
theorem V37 (x0:K00) (x1:List (List Int)) (x2:List Int) (x3:K01) (hx0:sln x0) (hx1:lln x1) (hx2:x2.length ≤ 9223372036854775807) (hx3:tln x3):Kr7 (x0,x1,x2,x3)=some true:=by
 unfold Kr7
 simp only
 by_cases gx2:x2.length ≤ 1048576
 ·rw [decide_eq_false (by omega),if_neg (by decide)]
  rw [Kwa x0 (1048576) hx0 (by omega) (by omega),bs]
  rcases Kup (1048576) (sms x0) with ⟨e0,l0⟩ | ⟨e0,l0⟩
  ·rw [e0]; rfl
  ·rw [e0,decide_eq_false (by omega),if_neg (by decide)]
   rw [Ky0 x1 (1048576 - (sms x0:Int)) hx1 (by omega) (by omega),bs]
   rcases Kup (1048576 - (sms x0:Int)) (lms x1) with ⟨e1,l1⟩ | ⟨e1,l1⟩
   ·rw [e1]; rfl
   ·rw [e1,decide_eq_false (by omega),if_neg (by decide)]
    rw [Kus x3 (1048576 - (sms x0:Int) - (lms x1:Int)) hx3 (by omega) (by omega),bs]
    rcases Kup (1048576 - (sms x0:Int) - (lms x1:Int)) (tms x3) with ⟨e2,l2⟩ | ⟨e2,l2⟩
    ·rw [e2]; rfl
    ·rw [e2,decide_eq_false (by omega),if_neg (by decide)]
     have bx0:sms x0 ≤ 1048576:=by omega
     have bx1:lms x1 ≤ 1048576:=by omega
     have bx3:tms x3 ≤ 1048576:=by omega
     obtain ⟨w0,w1,s1,s2,c0⟩:=V36 x0 x1 x2 x3 bx0 bx1 gx2 bx3 hx3
     obtain ⟨Mx0,mx0⟩:=Kxi x0 (1) (by omega) (by omega)
     have qx1:=Kxy (l:=x1) (by omega)
     have zx1:=qx1.2
     obtain ⟨Mx1,mx1⟩:=Kxc x1 (1 + sms x0) qx1 (by omega)
     have mx2:=Kwt x2 (1 + sms x0 + lct x1) (by omega) (by omega)
     obtain ⟨Mx3,mx3⟩:=Kx6 x3 (1 + sms x0 + lct x1 + x2.length) (by omega) (by omega)
     have zx3:=Kwx x3
     obtain ⟨N0,n0,n0'⟩:=Kx3 w0 (1) (by omega) (by omega)
     have y0:=Kwx w0
     rw [show ((1:Nat):Int)=1 from rfl] at mx0 n0 n0'
     simp only [s1,s2,bs,Kwb (s:=x0) (by omega),Kwc (s:=x0) (by omega),Ky2 x1 (by omega),Kxa x1 (Kxy (by omega)),Krh x2 (by omega),Krm x2 (by omega),Kuu x3 (by omega),Kuw x3 (by omega),Kuw w0 (by omega),mx0,mx1,mx2,mx3,n0,n0' w0.fOp w0.fN,Kx7,if_true,if_false,Bool.false_eq_true,Krk,Bool.not_true,Bool.not_false,Kxe,beq_self_eq_true]
     repeat (rw [decide_eq_false (by omega)]; simp only [bs,Bool.false_eq_true,if_false,if_true,Krk,Kx7,Bool.not_true,n0,n0' w0.fOp w0.fN])
 ·rw [decide_eq_true (by omega),if_pos rfl]
end Go.Am
