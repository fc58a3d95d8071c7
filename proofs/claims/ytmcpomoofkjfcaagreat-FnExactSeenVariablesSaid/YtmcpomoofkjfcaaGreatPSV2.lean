/- Plain laws of the printed functions. -/
import Derived.Test.YtmcpomoofkjfcaaGreatPSV1
set_option linter.unusedSimpArgs false
set_option linter.unusedVariables false
namespace Go.Am
theorem V1s (g:Nat) (h:g ≤ 15):Ksn (3 + (g:Int))=(3,(g:Int)):=by
 rcases Ksp (3 + (g:Int)) with h | h | h | h | h | h | h | h <;> first | omega | (obtain ⟨_,e⟩:=h; rw [e]; congr 1; omega)
theorem V1t (g:Nat) (h:g ≤ 15):Ksn (19 + (g:Int))=(4,(g:Int)):=by
 rcases Ksp (19 + (g:Int)) with h | h | h | h | h | h | h | h <;> first | omega | (obtain ⟨_,e⟩:=h; rw [e]; congr 1; omega)
theorem V1u (g:Nat) (h:g ≤ 15):Ksg (3 + (g:Int))=true:=by unfold Ksg inB; simp; omega
theorem V1v (g:Nat) (h:g ≤ 15):Ksg (19 + (g:Int))=false:=by unfold Ksg inB; simp; omega
theorem V1w (g:Nat) (h:g ≤ 15):Ksh (3 + (g:Int))=false:=by unfold Ksh inB; simp; omega
theorem V1x (g:Nat) (h:g ≤ 15):Ksh (19 + (g:Int))=true:=by unfold Ksh inB; simp; omega
theorem V1y (g:Nat) (h:g ≤ 15):Kcf (3 + (g:Int))=some (g:Int):=by
 rw [Kt5 (by rcases Ksm (3 + (g:Int)) with h | h | h | h <;> omega)]
 unfold Kt3
 rw [if_neg (by omega),if_neg (by omega)]
 congr 1; omega
theorem V1z (g:Nat) (h:g ≤ 15):Kcf (19 + (g:Int))=some (g:Int):=by
 rw [Kt5 (by rcases Ksm (19 + (g:Int)) with h | h | h | h <;> omega)]
 unfold Kt3
 rw [if_neg (by omega),if_pos (by omega)]
 congr 1; omega
section
variable {s:K00} {n:Nat} (hs:Kxp s n) {ctx:List (List Int)} {N:Int} {ty:List Int} {ks:List K01}
include hs
structure V20 (s:K00) (n:Nat) (q:List Int) (c:Int):Prop where
 arr:(Ksn c).1=3→∃ (g:Nat) (a b:List Int),g < n∧g ≤ 15∧c=3 + (g:Int)∧q=c :: (a ++ b)∧Kze s (3 + (g:Int)) a b
 pair:(Ksn c).1=1→∃ (a b:List Int),c=1∧q=c :: (a ++ b)∧Kze s 1 a b
 sum:(Ksn c).1=2→∃ (a b:List Int),c=2∧q=c :: (a ++ b)∧Kze s 2 a b
 box:(Ksn c).1=4→∃ (g:Nat) (a:List Int),g < n∧g ≤ 15∧c=19 + (g:Int)∧q=c :: a∧Kzf s (19 + (g:Int)) a
 arrB:Ksg c=true ↔ (Ksn c).1=3
 boxB:Ksh c=true ↔ (Ksn c).1=4
 one:c=1 ↔ (Ksn c).1=1
 two:c=2 ↔ (Ksn c).1=2
theorem V21 {q:List Int} (hq:TyS s q) {c:Int} {r:List Int} (e:q=c :: r):V20 s n q c:=by
 rcases Kzk hs hq with rfl | ⟨a,b,rfl,P⟩ | ⟨a,b,rfl,P⟩ | ⟨g,a,b,hg,h15,rfl,P⟩ | ⟨g,a,hg,h15,rfl,P⟩
 ·cases e
  refine ⟨fun h=>?_,fun h=>?_,fun h=>?_,fun h=>?_,by decide,by decide,by decide,by decide⟩ <;> exact absurd h (by decide)
 ·cases e
  refine ⟨fun h=>absurd h (by decide),fun _=>⟨a,b,rfl,rfl,P⟩,fun h=>absurd h (by decide),fun h=>absurd h (by decide),by decide,by decide,by decide,by decide⟩
 ·cases e
  refine ⟨fun h=>absurd h (by decide),fun h=>absurd h (by decide),fun _=>⟨a,b,rfl,rfl,P⟩,fun h=>absurd h (by decide),by decide,by decide,by decide,by decide⟩
 ·cases e
  have hsh:=V1s g h15
  refine ⟨fun _=>⟨g,a,b,hg,h15,rfl,rfl,P⟩,fun h=>?_,fun h=>?_,fun h=>?_,?_,?_,?_,?_⟩
  ·rw [hsh] at h; simp at h
  ·rw [hsh] at h; simp at h
  ·rw [hsh] at h; simp at h
  ·rw [hsh,V1u g h15]; simp
  ·rw [hsh,V1w g h15]; simp
  ·rw [hsh]; simp; omega
  ·rw [hsh]; simp; omega
 ·cases e
  have hsh:=V1t g h15
  refine ⟨fun h=>?_,fun h=>?_,fun h=>?_,fun _=>⟨g,_,hg,h15,rfl,rfl,P⟩,?_,?_,?_,?_⟩
  ·rw [hsh] at h; simp at h
  ·rw [hsh] at h; simp at h
  ·rw [hsh] at h; simp at h
  ·rw [hsh,V1v g h15]; simp
  ·rw [hsh,V1x g h15]; simp
  ·rw [hsh]; simp; omega
  ·rw [hsh]; simp; omega
theorem V22 (ih:V1f s n (tsz (⟨10,N,ty,ks⟩:K01))) (h:tOk (gN s.fSize true) (yN s.fSize true) ctx.length ⟨10,N,ty,ks⟩=true) (hc:∀ q ∈ ctx,TyS s q) (hb:ctx.length + 2 * tsz (⟨10,N,ty,ks⟩:K01) ≤ 1000000):∃ x y,V0y s n ctx ⟨10,N,ty,ks⟩ x y:=by
 obtain ⟨k0,k1,rfl,p0,p1⟩:=nd2 h (Nat.le_refl _) rfl
 have hz:=Kxc 10 N ty k0 k1
 obtain ⟨x0,y0,r0⟩:=ih k0 ctx p0 hc (by omega)
 obtain ⟨x1,y1,r1⟩:=ih k1 ctx p1 hc (by omega)
 by_cases f0:x0.ffault=0
 rotate_left
 ·exact V1h (by decide) (by decide) (by decide) hb r0 f0
 obtain ⟨g0,q0,a,na,la,ba⟩:=r0.gd f0
 obtain ⟨c0,t0,ht0,hn0,hz0⟩:=V1k hs g0
 have L0:=Kzb g0
 have e0:Kfj (s,ctx,⟨10,N,ty,[k0,k1]⟩,0)=some x0:=V0z (i:=0) rfl r0 f0
 have C:=V21 hs g0 ht0
 have i0:idx x0.fty 0=some c0:=by rw [ht0]; rfl
 by_cases z0:(Ksn c0).1=3
 rotate_left
 ·have w0:Ksg c0=false:=by cases h:Ksg c0 with | true=>exact absurd (C.arrB.1 h) z0 | false=>rfl
  refine V0y.bad (f:=6) (p:=[]) ?_ (V04 (by omega) (V12 (m:=[]) rfl (V1b (by decide)) r0 (by simp; omega) f0 (by rw [ht0,V0b,if_neg z0]) (by decide))) (by decide) (by simp; omega)
  rw [Kfh.eq_def]
  simp [e0,f0,i0,Ksj,w0,Kea]
 obtain ⟨g,p,q,hg,h15,hcg,hq,P⟩:=C.arr z0
 have w0:Ksg c0=true:=C.arrB.2 z0
 have o0:=V14 (out:=[]) (nd:=[]) (us:=[]) (w:=0) (t:=⟨10,N,ty,[k0,k1]⟩) (m:=[]) rfl (V1b (by decide)) r0 (by simp; omega) f0 (by rw [ht0,V0b,if_pos z0]) (V07 (by decide)) na (by simp <;> omega) (by simp) (by simp) (by simp) (by simp)
 have m1:Kzt ⟨10,N,ty,[k0,k1]⟩ [y0] 1=some []:=V1d (by decide) (V15 (by decide) rfl)
 by_cases f1:x1.ffault=0
 rotate_left
 ·have e1:Kfj (s,ctx,⟨10,N,ty,[k0,k1]⟩,1)=some ⟨[],[],x1.ffault,1 :: x1.fpath⟩:=V10 (i:=1) rfl r1 (by omega) f1
  refine V0y.bad (f:=x1.ffault) (p:=1 :: x1.fpath) ?_ (V04 (by omega) (o0.trans (V11 (m:=[]) rfl m1 r1 (by omega) (by simp; omega) f1))) f1 (by have:=r1.pl; simp; omega)
  rw [Kfh.eq_def]
  simp [e0,f0,i0,Ksj,w0,e1,f1]
 obtain ⟨g1,q1,b,nb,lb,bb⟩:=r1.gd f1
 obtain ⟨c1,t1,ht1,hn1,hz1⟩:=V1k hs g1
 have L1:=Kzb g1
 have e1:Kfj (s,ctx,⟨10,N,ty,[k0,k1]⟩,1)=some x1:=V0z (i:=1) rfl r1 f1
 have hp0:Keu (x0.fty,0)=some p:=by rw [hq,hcg]; exact P.p0
 have hp1:Keu (x0.fty,1)=some q:=by rw [hq,hcg]; exact P.p1
 have hpp:Kjx y0.fty=some [p,q]:=by rw [r0.ty,hq,hcg]; exact P.pp
 have Lp:=Kzb P.ya
 have Lq:=Kzb P.yb
 have hsm:=Kx3 x1.fty p (by omega)
 have hsi:=Kx5 x1.fty p (by omega)
 have ha:Kzz ⟨10,N,ty,[k0,k1]⟩ [y0] 1 y1=some (!(x1.fty == p)):=by
  unfold Kzz
  rw [if_pos (show ((10:Int) == 10)=true by decide),if_pos (by decide),V0g,bs,hpp,bs,V0g,bs,r1.ty,hsi,bs]
 by_cases hqq:x1.fty=p
 rotate_left
 ·rw [show (x1.fty == p)=false from beq_eq_false_iff_ne.2 hqq] at hsm ha
  refine V0y.bad (f:=3) (p:=[]) ?_ (V04 (by omega) (o0.trans (V13 (m:=[]) rfl m1 r1 (by simp; omega) f1 (by rw [ht1]; exact V08 (.inr (by decide))) ha))) (by decide) (by simp; omega)
  rw [Kfh.eq_def]
  simp [e0,f0,i0,Ksj,w0,e1,f1,hp0,hsm,Kea]
 rw [show (x1.fty == p)=true from beq_iff_eq.2 hqq] at hsm ha
 have o1:=V14 (out:=[y0]) (nd:=[Kxk a]) (us:=[Kxk []]) (w:=1) (t:=⟨10,N,ty,[k0,k1]⟩) (m:=[]) rfl m1 r1 (by simp; omega) f1 (by rw [ht1]; exact V08 (.inr (by decide))) ha nb (by simp <;> omega) (by simp) (by simp) (by simp) (by simp)
 have hf:=V0s (N:=N) (ty:=ty) (ks:=[k0,k1]) (ctx:=ctx) (us:=[Kxk [],Kxk []]) (z:=Kxk (List.replicate ctx.length 0)) (y0:=y0) (y1:=y1) hs hg (p:=p) (q:=q) (by rw [r0.ty,hq,hcg]) P ba bb (by omega) (by omega)
 have im:=V1g (q:=q) (ns:=Kxx s n a (Kxy s n g b)) (kids:=[y0,y1]) Lq (V05 (p0:=⟨s⟩) (t:=⟨10,N,ty,[k0,k1]⟩) (ctx:=ctx) (by omega) (o0.trans (o1.trans (Kzw (Nat.le_refl _)))) hf)
 have lsc:(Kxy s n g b).length=ctx.length:=by unfold Kxy; rw [List.length_map]; exact lb
 refine V0y.good (q:=q) (ns:=Kxx s n a (Kxy s n g b)) (kids:=[y0,y1]) ?_ im (by omega) P.yb (by unfold Kxx; rw [List.length_zipWith]; omega) (Ky3 hs ba (Ky4 hs hg bb)) rfl (kd2 (V0x.mk' (V15 (by decide) rfl) r0 f0 (fun _ h=>by cases h) rfl) (V0x.mk' (V15 (by decide) rfl) r1 f1 (fun _ h=>by cases h) rfl))
 have hgr:Kcf c0=some (g:Int):=by rw [hcg]; exact V1y g h15
 rw [Kfh.eq_def]
 simp [e0,f0,i0,Ksj,w0,e1,f1,hp0,hp1,hsm,hgr,na,nb,Ky9 hs g hg a b ba bb (by omega) (by omega)]
theorem V23 (ih:V1f s n (tsz (⟨5,N,ty,ks⟩:K01))) (h:tOk (gN s.fSize true) (yN s.fSize true) ctx.length ⟨5,N,ty,ks⟩=true) (hc:∀ q ∈ ctx,TyS s q) (hb:ctx.length + 2 * tsz (⟨5,N,ty,ks⟩:K01) ≤ 1000000):∃ x y,V0y s n ctx ⟨5,N,ty,ks⟩ x y:=by
 obtain ⟨k0,k1,rfl,p0,p1⟩:=nd2 h (Nat.le_refl _) rfl
 have hz:=Kxc 5 N ty k0 k1
 obtain ⟨g,hN,hg⟩:=Kzn hs (Kzp h rfl)
 simp only at hN
 subst hN
 obtain ⟨x0,y0,r0⟩:=ih k0 ctx p0 hc (by omega)
 by_cases f0:x0.ffault=0
 rotate_left
 ·exact V1h (by decide) (by decide) (by decide) hb r0 f0
 obtain ⟨g0,q0,a,na,la,ba⟩:=r0.gd f0
 obtain ⟨c0,t0,ht0,hn0,hz0⟩:=V1k hs g0
 have L0:=Kzb g0
 have e0:Kfj (s,ctx,⟨5,(g:Int),ty,[k0,k1]⟩,0)=some x0:=V0z (i:=0) rfl r0 f0
 have C:=V21 hs g0 ht0
 have i0:idx x0.fty 0=some c0:=by rw [ht0]; rfl
 by_cases z0:(Ksn c0).1=1
 rotate_left
 ·have w0:c0 ≠ 1:=fun h=>z0 (C.one.1 h)
  refine V0y.bad (f:=4) (p:=[]) ?_ (V04 (by omega) (V12 (m:=[]) rfl (V1b (by decide)) r0 (by simp; omega) f0 (by rw [ht0,V0c hs hg,if_neg z0]) (by decide))) (by decide) (by simp; omega)
  rw [Kfh.eq_def]
  simp [e0,f0,i0,Kfi.eq_def,w0,Kea]
 obtain ⟨p,q,hcg,hq,P⟩:=C.pair z0
 have hle:=sLe hs.tab (Kxr hs) hg
 cases hl:le s n 1 g with
 | false =>
  have hl2:Kap (s,1,(g:Int))=some false:=by rw [← hl]; exact hle
  refine V0y.bad (f:=8) (p:=[]) ?_ (V04 (by omega) (V12 (m:=[]) rfl (V1b (by decide)) r0 (by simp; omega) f0 (by rw [ht0,V0c hs hg,if_pos z0,hl]; rfl) (by decide))) (by decide) (by simp; omega)
  rw [Kfh.eq_def]
  simp [e0,f0,i0,Kfi.eq_def,hcg,hl2,Kea]
 | true =>
 have hl2:Kap (s,1,(g:Int))=some true:=by rw [← hl]; exact hle
 have o0:=V14 (out:=[]) (nd:=[]) (us:=[]) (w:=0) (t:=⟨5,(g:Int),ty,[k0,k1]⟩) (m:=[]) rfl (V1b (by decide)) r0 (by simp; omega) f0 (by rw [ht0,V0c hs hg,if_pos z0,hl]; rfl) (V06 (show (5:Int) ≠ 10 by decide)) na (by simp <;> omega) (by simp) (by simp) (by simp) (by simp)
 have hp0:Keu (x0.fty,0)=some p:=by rw [hq,hcg]; exact P.p0
 have hp1:Keu (x0.fty,1)=some q:=by rw [hq,hcg]; exact P.p1
 have ad:Kk0 (⟨5,(g:Int),ty,[k0,k1]⟩,((1:Nat):Int),y0.fty)=some [q,p]:=by rw [r0.ty,hq,hcg]; exact V17 P
 have hm':∀ z ∈ [q,p],TyS s z:=fun z hz=>by simp at hz; rcases hz with rfl | rfl; exact P.yb; exact P.ya
 have m1:Kzt ⟨5,(g:Int),ty,[k0,k1]⟩ [y0] 1=some [q,p]:=V1d (by decide) ad
 have p1':Kzo s ([q,p] ++ ctx).length k1 (tsz (⟨5,(g:Int),ty,[k0,k1]⟩:K01)):=by
  have e:([q,p] ++ ctx).length=ctx.length + Kts 5 1:=by simp [Kts]
  rw [e]; exact p1
 obtain ⟨x1,y1,r1⟩:=ih k1 ([q,p] ++ ctx) p1' (fun z hz=>by rcases List.mem_append.1 hz with hz | hz; exact hm' z hz; exact hc z hz) (by simp; omega)
 have hwc:=Kyn ctx [q,p] (by simp; omega)
 by_cases f1:x1.ffault=0
 rotate_left
 ·have e1:Kfj (s,q :: p :: ctx,⟨5,(g:Int),ty,[k0,k1]⟩,1)=some ⟨[],[],x1.ffault,1 :: x1.fpath⟩:=V10 (i:=1) rfl r1 (by omega) f1
  refine V0y.bad (f:=x1.ffault) (p:=1 :: x1.fpath) ?_ (V04 (by omega) (o0.trans (V11 (m:=[q,p]) rfl m1 r1 (by omega) (by simp; omega) f1))) f1 (by have:=r1.pl; simp; omega)
  rw [Kfh.eq_def]
  simp [e0,f0,i0,Kfi.eq_def,hcg,hl2,hp0,hp1,hwc,e1,f1]
 obtain ⟨g1,q1,b,nb,lb,bb⟩:=r1.gd f1
 obtain ⟨c1,t1,ht1,hn1,hz1⟩:=V1k hs g1
 have L1:=Kzb g1
 have e1:Kfj (s,q :: p :: ctx,⟨5,(g:Int),ty,[k0,k1]⟩,1)=some x1:=V0z (i:=1) rfl r1 f1
 have lb':b.length=ctx.length + 2:=by rw [lb]; simp
 obtain ⟨u0,u1,b',rfl⟩:∃ u0 u1 b',b=u0 :: u1 :: b':=by match b,lb' with | u0 :: u1 :: b',_=>exact ⟨u0,u1,b',rfl⟩ | [_],h=>simp at h | [],h=>simp at h
 obtain ⟨hu0,bb1⟩:=Ky1 bb
 obtain ⟨hu1,bb'⟩:=Ky1 bb1
 have o1:=V14 (out:=[y0]) (nd:=[Kxk a]) (us:=[Kxk []]) (w:=1) (t:=⟨5,(g:Int),ty,[k0,k1]⟩) (m:=[q,p]) rfl m1 r1 (by simp; omega) f1 (by rw [ht1]; exact V08 (.inr (by decide))) (V06 (show (5:Int) ≠ 10 by decide)) nb (by simp <;> omega) (by simp) (by simp) (by simp) (by simp)
 simp only [List.length_cons,List.length_nil,Nat.zero_add,List.drop_succ_cons,List.drop_zero,List.take_succ_cons,List.take_zero,List.nil_append] at o1
 have hl0:=o0.trans (o1.trans (Kzw (Nat.le_refl _)))
 have lbc:b'.length=ctx.length:=by simp at lb'; omega
 have i1:idx x1.fneeds 0=some (u0:Int):=by rw [nb]; rfl
 have hcut:cut x1.fneeds (some (2:Int)) none none=some (Kxk b'):=by
  rw [nb]
  have:=Kzy (l:=Kxk (u0 :: u1 :: b')) (m:=2) (by simp [Kxk])
  exact this
 have hcp:=Kui (Kxk b') (by rw [Kxl]; omega)
 have i2:idx x1.fneeds 1=some (u1:Int):=by rw [nb]; rfl
 have hle0:=sLe hs.tab hu0 hg
 have hle1:=sLe hs.tab hu1 hg
 have hf:=V0t (ty:=ty) (ks:=[k0,k1]) (ctx:=ctx) (z:=Kxk (List.replicate ctx.length 0)) (y0:=y0) (y1:=y1) (us':=Kxk []) (u:=[u0,u1]) hs hg (fun x hx=>by simp at hx; rcases hx with rfl | rfl; exact hu0; exact hu1) (by simp) ba bb' (by omega) (by omega) (by rw [r1.ty]; omega)
 simp only [List.all_cons,List.all_nil,Bool.and_true] at hf
 have es:=e1
 cases hal:(le s n u0 g && le s n u1 g) with
 | false =>
  rw [hal,if_neg (by decide)] at hf
  refine V0y.bad (f:=9) (p:=[]) ?_ (V05 (by omega) hl0 hf) (by decide) (by simp; omega)
  rw [Kfh.eq_def]
  simp [e0,f0,i0,Kfi.eq_def,hcg,hl2,hp0,hp1,hwc,e1,f1,i1,i2,hcut,hcp,hle0,hle1,Kea]
  cases q1:le s n u1 g with
  | false=>simp
  | true=>rw [q1,Bool.and_true] at hal; simp [hal]
 | true =>
  rw [hal,if_pos rfl] at hf
  have im:=V1g (q:=y1.fty) (ns:=Kxx s n (Kxy s n g a) b') (kids:=[y0,y1]) (by rw [r1.ty]; omega) (V05 (by omega) hl0 hf)
  rw [r1.ty] at im
  have lsc:(Kxy s n g a).length=ctx.length:=by unfold Kxy; rw [List.length_map]; exact la
  have hsc:=Ky4 hs hg ba
  have hz0:=Ky7 hs hsc
  rw [lsc] at hz0
  have hsum:=Ky9 hs g hg (List.replicate ctx.length 0) a (fun x hx=>by rw [List.eq_of_mem_replicate hx]; exact Kxs hs) ba (by simp; omega) (by simp [la])
  rw [hz0] at hsum
  have hs2:=Kya hs (Kxy s n g a) b' hsc bb' (by omega) (by omega)
  refine V0y.good (q:=x1.fty) (ns:=Kxx s n (Kxy s n g a) b') (kids:=[y0,y1]) ?_ im (by omega) g1 (by unfold Kxx; rw [List.length_zipWith]; omega) (Ky3 hs hsc bb') rfl (kd2 (V0x.mk' (V15 (by decide) rfl) r0 f0 (fun _ h=>by cases h) rfl) (V0x.mk' ad r1 f1 hm' rfl))
  rw [Kfh.eq_def]
  rw [Bool.and_eq_true] at hal
  simp [e0,f0,i0,Kfi.eq_def,hcg,hl2,hp0,hp1,hwc,e1,f1,i1,i2,hcut,hcp,hle0,hle1,hal.1,hal.2,na,Kym ctx.length (by omega),hsum,hs2]
theorem V24 (ih:V1f s n (tsz (⟨12,N,ty,ks⟩:K01))) (h:tOk (gN s.fSize true) (yN s.fSize true) ctx.length ⟨12,N,ty,ks⟩=true) (hc:∀ q ∈ ctx,TyS s q) (hb:ctx.length + 2 * tsz (⟨12,N,ty,ks⟩:K01) ≤ 1000000):∃ x y,V0y s n ctx ⟨12,N,ty,ks⟩ x y:=by
 obtain ⟨k0,k1,rfl,p0,p1⟩:=nd2 h (Nat.le_refl _) rfl
 have hz:=Kxc 12 N ty k0 k1
 obtain ⟨g,hN,hg⟩:=Kzn hs (Kzp h rfl)
 simp only at hN
 subst hN
 obtain ⟨x0,y0,r0⟩:=ih k0 ctx p0 hc (by omega)
 by_cases f0:x0.ffault=0
 rotate_left
 ·exact V1h (by decide) (by decide) (by decide) hb r0 f0
 obtain ⟨g0,q0,a,na,la,ba⟩:=r0.gd f0
 obtain ⟨c0,t0,ht0,hn0,hz0⟩:=V1k hs g0
 have L0:=Kzb g0
 have e0:Kfj (s,ctx,⟨12,(g:Int),ty,[k0,k1]⟩,0)=some x0:=V0z (i:=0) rfl r0 f0
 have C:=V21 hs g0 ht0
 have i0:idx x0.fty 0=some c0:=by rw [ht0]; rfl
 by_cases z0:(Ksn c0).1=4
 rotate_left
 ·have w0:Ksh c0=false:=by cases h:Ksh c0 with | true=>exact absurd (C.boxB.1 h) z0 | false=>rfl
  refine V0y.bad (f:=7) (p:=[]) ?_ (V04 (by omega) (V12 (m:=[]) rfl (V1b (by decide)) r0 (by simp; omega) f0 (by rw [ht0,V0e hs hg,if_neg z0]) (by decide))) (by decide) (by simp; omega)
  rw [Kfh.eq_def]
  simp [e0,f0,i0,Kfi.eq_def,Ksk,w0,Kea]
 obtain ⟨m,p,hm,h15,hcg,hq,P⟩:=C.box z0
 have w0:Ksh c0=true:=C.boxB.2 z0
 have hle:=sLe hs.tab (Kxr hs) hg
 cases hl:le s n 1 g with
 | false =>
  have hl2:Kap (s,1,(g:Int))=some false:=by rw [← hl]; exact hle
  refine V0y.bad (f:=8) (p:=[]) ?_ (V04 (by omega) (V12 (m:=[]) rfl (V1b (by decide)) r0 (by simp; omega) f0 (by rw [ht0,V0e hs hg,if_pos z0,hl]; rfl) (by decide))) (by decide) (by simp; omega)
  rw [Kfh.eq_def]
  simp [e0,f0,i0,Kfi.eq_def,Ksk,w0,hl2,Kea]
 | true =>
 have hl2:Kap (s,1,(g:Int))=some true:=by rw [← hl]; exact hle
 have o0:=V14 (out:=[]) (nd:=[]) (us:=[]) (w:=0) (t:=⟨12,(g:Int),ty,[k0,k1]⟩) (m:=[]) rfl (V1b (by decide)) r0 (by simp; omega) f0 (by rw [ht0,V0e hs hg,if_pos z0,hl]; rfl) (V06 (show (12:Int) ≠ 10 by decide)) na (by simp <;> omega) (by simp) (by simp) (by simp) (by simp)
 have hp0:Keu (x0.fty,0)=some p:=by rw [hq,hcg]; exact P.p0
 have ad:Kk0 (⟨12,(g:Int),ty,[k0,k1]⟩,((1:Nat):Int),y0.fty)=some [p]:=by rw [r0.ty,hq,hcg]; exact V1a P
 have hm':∀ z ∈ [p],TyS s z:=fun z hz=>by simp at hz; rw [hz]; exact P.ya
 have hgr:Kcf c0=some (m:Int):=by rw [hcg]; exact V1z m h15
 have m1:Kzt ⟨12,(g:Int),ty,[k0,k1]⟩ [y0] 1=some [p]:=V1d (by decide) ad
 have p1':Kzo s ([p] ++ ctx).length k1 (tsz (⟨12,(g:Int),ty,[k0,k1]⟩:K01)):=by
  have e:([p] ++ ctx).length=ctx.length + Kts 12 1:=by simp [Kts]
  rw [e]; exact p1
 obtain ⟨x1,y1,r1⟩:=ih k1 ([p] ++ ctx) p1' (fun z hz=>by rcases List.mem_append.1 hz with hz | hz; exact hm' z hz; exact hc z hz) (by simp; omega)
 have hwc:=Kyn ctx [p] (by simp; omega)
 by_cases f1:x1.ffault=0
 rotate_left
 ·have e1:Kfj (s,p :: ctx,⟨12,(g:Int),ty,[k0,k1]⟩,1)=some ⟨[],[],x1.ffault,1 :: x1.fpath⟩:=V10 (i:=1) rfl r1 (by omega) f1
  refine V0y.bad (f:=x1.ffault) (p:=1 :: x1.fpath) ?_ (V04 (by omega) (o0.trans (V11 (m:=[p]) rfl m1 r1 (by omega) (by simp; omega) f1))) f1 (by have:=r1.pl; simp; omega)
  rw [Kfh.eq_def]
  simp [e0,f0,i0,Kfi.eq_def,Ksk,w0,hl2,hp0,hwc,e1,f1]
 obtain ⟨g1,q1,b,nb,lb,bb⟩:=r1.gd f1
 obtain ⟨c1,t1,ht1,hn1,hz1⟩:=V1k hs g1
 have L1:=Kzb g1
 have e1:Kfj (s,p :: ctx,⟨12,(g:Int),ty,[k0,k1]⟩,1)=some x1:=V0z (i:=1) rfl r1 f1
 have lb':b.length=ctx.length + 1:=by rw [lb]; simp
 obtain ⟨u0,b',rfl⟩:∃ u0 b',b=u0 :: b':=by match b,lb' with | u0 :: b',_=>exact ⟨u0,b',rfl⟩ | [],h=>simp at h
 obtain ⟨hu0,bb'⟩:=Ky1 bb
 have o1:=V14 (out:=[y0]) (nd:=[Kxk a]) (us:=[Kxk []]) (w:=1) (t:=⟨12,(g:Int),ty,[k0,k1]⟩) (m:=[p]) rfl m1 r1 (by simp; omega) f1 (by rw [ht1]; exact V08 (.inr (by decide))) (V06 (show (12:Int) ≠ 10 by decide)) nb (by simp <;> omega) (by simp) (by simp) (by simp) (by simp)
 simp only [List.length_cons,List.length_nil,Nat.zero_add,List.drop_succ_cons,List.drop_zero,List.take_succ_cons,List.take_zero,List.nil_append] at o1
 have hl0:=o0.trans (o1.trans (Kzw (Nat.le_refl _)))
 have lbc:b'.length=ctx.length:=by simp at lb'; omega
 have i1:idx x1.fneeds 0=some (u0:Int):=by rw [nb]; rfl
 have hcut:cut x1.fneeds (some (1:Int)) none none=some (Kxk b'):=by
  rw [nb]
  have:=Kzy (l:=Kxk (u0 :: b')) (m:=1) (by simp [Kxk])
  exact this
 have hcp:=Kui (Kxk b') (by rw [Kxl]; omega)
 have hmul:=Krm hs.tab hg hm
 have htm:=Krh hs.tab hg hm
 have hle0:=sLe hs.tab hu0 htm
 have hf:=V0u (ty:=ty) (ks:=[k0,k1]) (ctx:=ctx) (z:=Kxk (List.replicate ctx.length 0)) (y0:=y0) (y1:=y1) (us':=Kxk []) (u:=[u0]) hs hg hm (p:=p) (by rw [r0.ty,hq,hcg]) (fun x hx=>by simp at hx; rw [hx]; exact hu0) (by simp) ba bb' (by omega) (by omega) (by rw [r1.ty]; omega)
 simp only [List.all_cons,List.all_nil,Bool.and_true] at hf
 have es:=e1
 cases hal:(le s n u0 (ti s n g m)) with
 | false =>
  rw [hal,if_neg (by decide)] at hf
  refine V0y.bad (f:=9) (p:=[]) ?_ (V05 (by omega) hl0 hf) (by decide) (by simp; omega)
  rw [Kfh.eq_def]
  simp [e0,f0,i0,Kfi.eq_def,Ksk,w0,hl2,hp0,hwc,e1,f1,i1,hcut,hcp,hgr,hmul,hle0,hal,Kea]
 | true =>
  rw [hal,if_pos rfl] at hf
  have im:=V1g (q:=y1.fty) (ns:=Kxx s n (Kxy s n g a) b') (kids:=[y0,y1]) (by rw [r1.ty]; omega) (V05 (by omega) hl0 hf)
  rw [r1.ty] at im
  have lsc:(Kxy s n g a).length=ctx.length:=by unfold Kxy; rw [List.length_map]; exact la
  have hsc:=Ky4 hs hg ba
  have hz0:=Ky7 hs hsc
  rw [lsc] at hz0
  have hsum:=Ky9 hs g hg (List.replicate ctx.length 0) a (fun x hx=>by rw [List.eq_of_mem_replicate hx]; exact Kxs hs) ba (by simp; omega) (by simp [la])
  rw [hz0] at hsum
  have hs2:=Kya hs (Kxy s n g a) b' hsc bb' (by omega) (by omega)
  refine V0y.good (q:=x1.fty) (ns:=Kxx s n (Kxy s n g a) b') (kids:=[y0,y1]) ?_ im (by omega) g1 (by unfold Kxx; rw [List.length_zipWith]; omega) (Ky3 hs hsc bb') rfl (kd2 (V0x.mk' (V15 (by decide) rfl) r0 f0 (fun _ h=>by cases h) rfl) (V0x.mk' ad r1 f1 hm' rfl))
  rw [Kfh.eq_def]
  simp [e0,f0,i0,Kfi.eq_def,Ksk,w0,hl2,hp0,hwc,e1,f1,i1,hcut,hcp,hgr,hmul,hle0,hal,na,Kym ctx.length (by omega),hsum,hs2]
theorem V25 (ih:V1f s n (tsz (⟨8,N,ty,ks⟩:K01))) (h:tOk (gN s.fSize true) (yN s.fSize true) ctx.length ⟨8,N,ty,ks⟩=true) (hc:∀ q ∈ ctx,TyS s q) (hb:ctx.length + 2 * tsz (⟨8,N,ty,ks⟩:K01) ≤ 1000000):∃ x y,V0y s n ctx ⟨8,N,ty,ks⟩ x y:=by
 obtain ⟨k0,k1,k2,rfl,p0,p1,p2⟩:=nd3 h (Nat.le_refl _) rfl
 have hz:=Kxd 8 N ty k0 k1 k2
 obtain ⟨g,hN,hg⟩:=Kzn hs (Kzp h rfl)
 simp only at hN
 subst hN
 obtain ⟨x0,y0,r0⟩:=ih k0 ctx p0 hc (by omega)
 by_cases f0:x0.ffault=0
 rotate_left
 ·exact V1h (by decide) (by decide) (by decide) hb r0 f0
 obtain ⟨g0,q0,a,na,la,ba⟩:=r0.gd f0
 obtain ⟨c0,t0,ht0,hn0,hz0⟩:=V1k hs g0
 have L0:=Kzb g0
 have e0:Kfj (s,ctx,⟨8,(g:Int),ty,[k0,k1,k2]⟩,0)=some x0:=V0z (i:=0) rfl r0 f0
 have C:=V21 hs g0 ht0
 have i0:idx x0.fty 0=some c0:=by rw [ht0]; rfl
 by_cases z0:(Ksn c0).1=2
 rotate_left
 ·have w0:c0 ≠ 2:=fun h=>z0 (C.two.1 h)
  refine V0y.bad (f:=5) (p:=[]) ?_ (V04 (by omega) (V12 (m:=[]) rfl (V1b (by decide)) r0 (by simp; omega) f0 (by rw [ht0,V0d hs hg,if_neg z0]) (by decide))) (by decide) (by simp; omega)
  rw [Kfh.eq_def]
  simp [e0,f0,i0,Kfi.eq_def,w0,Kea]
 obtain ⟨p,q,hcg,hq,P⟩:=C.sum z0
 have hle:=sLe hs.tab (Kxr hs) hg
 cases hl:le s n 1 g with
 | false =>
  have hl2:Kap (s,1,(g:Int))=some false:=by rw [← hl]; exact hle
  refine V0y.bad (f:=8) (p:=[]) ?_ (V04 (by omega) (V12 (m:=[]) rfl (V1b (by decide)) r0 (by simp; omega) f0 (by rw [ht0,V0d hs hg,if_pos z0,hl]; rfl) (by decide))) (by decide) (by simp; omega)
  rw [Kfh.eq_def]
  simp [e0,f0,i0,Kfi.eq_def,hcg,hl2,Kea]
 | true =>
 have hl2:Kap (s,1,(g:Int))=some true:=by rw [← hl]; exact hle
 have o0:=V14 (out:=[]) (nd:=[]) (us:=[]) (w:=0) (t:=⟨8,(g:Int),ty,[k0,k1,k2]⟩) (m:=[]) rfl (V1b (by decide)) r0 (by simp; omega) f0 (by rw [ht0,V0d hs hg,if_pos z0,hl]; rfl) (V06 (show (8:Int) ≠ 10 by decide)) na (by simp <;> omega) (by simp) (by simp) (by simp) (by simp)
 have hp0:Keu (x0.fty,0)=some p:=by rw [hq,hcg]; exact P.p0
 have hp1:Keu (x0.fty,1)=some q:=by rw [hq,hcg]; exact P.p1
 have ad1:Kk0 (⟨8,(g:Int),ty,[k0,k1,k2]⟩,((1:Nat):Int),y0.fty)=some [p]:=by rw [r0.ty,hq,hcg]; exact V18 P
 have ad2:Kk0 (⟨8,(g:Int),ty,[k0,k1,k2]⟩,((2:Nat):Int),y0.fty)=some [q]:=by rw [r0.ty,hq,hcg]; exact V19 P
 have hm1:∀ z ∈ [p],TyS s z:=fun z hz=>by simp at hz; rw [hz]; exact P.ya
 have hm2:∀ z ∈ [q],TyS s z:=fun z hz=>by simp at hz; rw [hz]; exact P.yb
 have m1:Kzt ⟨8,(g:Int),ty,[k0,k1,k2]⟩ [y0] 1=some [p]:=V1d (by decide) ad1
 have p1':Kzo s ([p] ++ ctx).length k1 (tsz (⟨8,(g:Int),ty,[k0,k1,k2]⟩:K01)):=by
  have e:([p] ++ ctx).length=ctx.length + Kts 8 1:=by simp [Kts]
  rw [e]; exact p1
 obtain ⟨x1,y1,r1⟩:=ih k1 ([p] ++ ctx) p1' (fun z hz=>by rcases List.mem_append.1 hz with hz | hz; exact hm1 z hz; exact hc z hz) (by simp; omega)
 have hw1:=Kyn ctx [p] (by simp; omega)
 by_cases f1:x1.ffault=0
 rotate_left
 ·have e1:Kfj (s,p :: ctx,⟨8,(g:Int),ty,[k0,k1,k2]⟩,1)=some ⟨[],[],x1.ffault,1 :: x1.fpath⟩:=V10 (i:=1) rfl r1 (by omega) f1
  refine V0y.bad (f:=x1.ffault) (p:=1 :: x1.fpath) ?_ (V04 (by omega) (o0.trans (V11 (m:=[p]) rfl m1 r1 (by omega) (by simp; omega) f1))) f1 (by have:=r1.pl; simp; omega)
  rw [Kfh.eq_def]
  simp [e0,f0,i0,Kfi.eq_def,hcg,hl2,hp0,hp1,hw1,e1,f1]
 obtain ⟨g1,q1,b,nb,lb,bb⟩:=r1.gd f1
 obtain ⟨c1,t1,ht1,hn1,hz1⟩:=V1k hs g1
 have L1:=Kzb g1
 have e1:Kfj (s,p :: ctx,⟨8,(g:Int),ty,[k0,k1,k2]⟩,1)=some x1:=V0z (i:=1) rfl r1 f1
 have lb':b.length=ctx.length + 1:=by rw [lb]; simp
 obtain ⟨u0,b',rfl⟩:∃ u0 b',b=u0 :: b':=by match b,lb' with | u0 :: b',_=>exact ⟨u0,b',rfl⟩ | [],h=>simp at h
 obtain ⟨hu0,bb'⟩:=Ky1 bb
 have lbc:b'.length=ctx.length:=by simp at lb'; omega
 have i1:idx x1.fneeds 0=some (u0:Int):=by rw [nb]; rfl
 have hcut1:cut x1.fneeds (some (1:Int)) none none=some (Kxk b'):=by rw [nb]; exact Kwc _ _
 have hcp1:=Kui (Kxk b') (by rw [Kxl]; omega)
 have o1:=V14 (out:=[y0]) (nd:=[Kxk a]) (us:=[Kxk []]) (w:=1) (t:=⟨8,(g:Int),ty,[k0,k1,k2]⟩) (m:=[p]) rfl m1 r1 (by simp; omega) f1 (by rw [ht1]; exact V08 (.inr (by decide))) (V06 (show (8:Int) ≠ 10 by decide)) nb (by simp <;> omega) (by simp) (by simp) (by simp) (by simp)
 simp only [List.length_cons,List.length_nil,Nat.zero_add,List.drop_succ_cons,List.drop_zero,List.take_succ_cons,List.take_zero,List.nil_append,List.cons_append] at o1
 have m2:Kzt ⟨8,(g:Int),ty,[k0,k1,k2]⟩ [y0,y1] 2=some [q]:=V1d (by decide) ad2
 have p2':Kzo s ([q] ++ ctx).length k2 (tsz (⟨8,(g:Int),ty,[k0,k1,k2]⟩:K01)):=by
  have e:([q] ++ ctx).length=ctx.length + Kts 8 2:=by simp [Kts]
  rw [e]; exact p2
 obtain ⟨x2,y2,r2⟩:=ih k2 ([q] ++ ctx) p2' (fun z hz=>by rcases List.mem_append.1 hz with hz | hz; exact hm2 z hz; exact hc z hz) (by simp; omega)
 have hw2:=Kyn ctx [q] (by simp; omega)
 by_cases f2:x2.ffault=0
 rotate_left
 ·have e2:Kfj (s,q :: ctx,⟨8,(g:Int),ty,[k0,k1,k2]⟩,2)=some ⟨[],[],x2.ffault,2 :: x2.fpath⟩:=V10 (i:=2) rfl r2 (by omega) f2
  refine V0y.bad (f:=x2.ffault) (p:=2 :: x2.fpath) ?_ (V04 (by omega) (o0.trans (o1.trans (V11 (m:=[q]) rfl m2 r2 (by omega) (by simp; omega) f2)))) f2 (by have:=r2.pl; simp; omega)
  rw [Kfh.eq_def]
  simp [e0,f0,i0,Kfi.eq_def,hcg,hl2,hp0,hp1,hw1,e1,f1,hcut1,hcp1,hw2,e2,f2]
 obtain ⟨g2,q2,d,nd,ld,bd⟩:=r2.gd f2
 obtain ⟨c2,t2,ht2,hn2,hz2⟩:=V1k hs g2
 have L2:=Kzb g2
 have e2:Kfj (s,q :: ctx,⟨8,(g:Int),ty,[k0,k1,k2]⟩,2)=some x2:=V0z (i:=2) rfl r2 f2
 have ld':d.length=ctx.length + 1:=by rw [ld]; simp
 obtain ⟨v0,d',rfl⟩:∃ v0 d',d=v0 :: d':=by match d,ld' with | v0 :: d',_=>exact ⟨v0,d',rfl⟩ | [],h=>simp at h
 obtain ⟨hv0,bd'⟩:=Ky1 bd
 have ldc:d'.length=ctx.length:=by simp at ld'; omega
 have i2:idx x2.fneeds 0=some (v0:Int):=by rw [nd]; rfl
 have hcut2:cut x2.fneeds (some (1:Int)) none none=some (Kxk d'):=by rw [nd]; exact Kwc _ _
 have o2:=V14 (out:=[y0,y1]) (nd:=[Kxk a,Kxk b']) (us:=[Kxk [],Kxk [u0]]) (w:=2) (t:=⟨8,(g:Int),ty,[k0,k1,k2]⟩) (m:=[q]) rfl m2 r2 (by simp; omega) f2 (by rw [ht2]; exact V08 (.inr (by decide))) (V06 (show (8:Int) ≠ 10 by decide)) nd (by simp <;> omega) (by simp) (by simp) (by simp) (by simp)
 simp only [List.length_cons,List.length_nil,Nat.zero_add,List.drop_succ_cons,List.drop_zero,List.take_succ_cons,List.take_zero,List.nil_append,List.cons_append] at o2
 have hl0:=o0.trans (o1.trans (o2.trans (Kzw (Nat.le_refl _))))
 have hle0:=sLe hs.tab hu0 hg
 have hle1:=sLe hs.tab hv0 hg
 have hf:=V0v (ty:=ty) (ks:=[k0,k1,k2]) (ctx:=ctx) (z:=Kxk (List.replicate ctx.length 0)) (y0:=y0) (y1:=y1) (y2:=y2) (us':=Kxk []) (u:=[u0]) (v:=[v0]) hs hg (fun x hx=>by simp at hx; rw [hx]; exact hu0) (by simp) (fun x hx=>by simp at hx; rw [hx]; exact hv0) (by simp) ba bb' bd' (by omega) (by omega) (by omega) (by rw [r2.ty]; omega) (by rw [r1.ty]; omega)
 simp only [List.all_cons,List.all_nil,Bool.and_true] at hf
 rw [r1.ty,r2.ty] at hf
 have hsm:=Kx3 x1.fty x2.fty (by omega)
 have hj:=Kyc hs b' d' bb' bd' (by omega) (by omega)
 have lj:(Kxz s n b' d').length=ctx.length:=by unfold Kxz; rw [List.length_zipWith]; omega
 by_cases hqq:x1.fty=x2.fty
 rotate_left
 ·rw [if_neg hqq] at hf
  rw [show (x1.fty == x2.fty)=false from beq_eq_false_iff_ne.2 hqq] at hsm
  refine V0y.bad (f:=3) (p:=[]) ?_ (V05 (by omega) hl0 hf) (by decide) (by simp; omega)
  rw [Kfh.eq_def]
  simp [e0,f0,i0,Kfi.eq_def,hcg,hl2,hp0,hp1,hw1,e1,f1,hcut1,hcp1,hw2,e2,f2,hsm,Kea]
 rw [if_pos hqq] at hf
 rw [show (x1.fty == x2.fty)=true from beq_iff_eq.2 hqq] at hsm
 by_cases hal:le s n u0 g=true∧le s n v0 g=true
 rotate_left
 ·rw [if_neg hal] at hf
  refine V0y.bad (f:=9) (p:=[]) ?_ (V05 (by omega) hl0 hf) (by decide) (by simp; omega)
  rw [Kfh.eq_def]
  simp [e0,f0,i0,Kfi.eq_def,hcg,hl2,hp0,hp1,hw1,e1,f1,hcut1,hcp1,hw2,e2,f2,hsm,i1,i2,hle0,hle1,hcut2,hj,Kea]
  cases q1:le s n v0 g with
  | false=>simp
  | true =>
   cases q2:le s n u0 g with
   | false=>simp
   | true=>exact absurd ⟨q2,q1⟩ hal
 rw [if_pos hal] at hf
 have im:=V1g (q:=x1.fty) (ns:=Kxx s n (Kxy s n g a) (Kxz s n b' d')) (kids:=[y0,y1,y2]) (by omega) (V05 (by omega) hl0 hf)
 have lsc:(Kxy s n g a).length=ctx.length:=by unfold Kxy; rw [List.length_map]; exact la
 have hsc:=Ky4 hs hg ba
 have hz0:=Ky7 hs hsc
 rw [lsc] at hz0
 have hsum:=Ky9 hs g hg (List.replicate ctx.length 0) a (fun x hx=>by rw [List.eq_of_mem_replicate hx]; exact Kxs hs) ba (by simp; omega) (by simp [la])
 rw [hz0] at hsum
 have hs2:=Kya hs (Kxy s n g a) (Kxz s n b' d') hsc (Ky5 hs bb' bd') (by omega) (by omega)
 refine V0y.good (q:=x1.fty) (ns:=Kxx s n (Kxy s n g a) (Kxz s n b' d')) (kids:=[y0,y1,y2]) ?_ im (by omega) g1 (by unfold Kxx; rw [List.length_zipWith]; omega) (Ky3 hs hsc (Ky5 hs bb' bd')) rfl (kd3 (V0x.mk' (V15 (by decide) rfl) r0 f0 (fun _ h=>by cases h) rfl) (V0x.mk' ad1 r1 f1 hm1 rfl) (V0x.mk' ad2 r2 f2 hm2 rfl))
 rw [Kfh.eq_def]
 simp [e0,f0,i0,Kfi.eq_def,hcg,hl2,hp0,hp1,hw1,e1,f1,hcut1,hcp1,hw2,e2,f2,hsm,i1,i2,hle0,hle1,hal.1,hal.2,hcut2,hj,na,Kym ctx.length (by omega),hsum,hs2]
theorem V26:∀ (m:Nat) (t:K01) (ctx:List (List Int)),tsz t ≤ m→tOk (gN s.fSize true) (yN s.fSize true) ctx.length t=true→(∀ q ∈ ctx,TyS s q)→ctx.length + 2 * tsz t ≤ 1000000→∃ x y,V0y s n ctx t x y
 | 0,t,ctx,hm,_,_,_=>by obtain ⟨op,N,ty,ks⟩:=t; rw [tsz] at hm; omega
 | m + 1,t,ctx,hm,h,hc,hb=>by
  have ih:V1f s n (tsz t):=fun k c hk hc hb=>V26 m k c (by have:=hk.sz; omega) hk.ok hc hb
  obtain ⟨op,N,ty,ks⟩:=t
  have hop:=(Kuh (Kuf h).1).1
  simp only at hop
  rcases Ktm hop with rfl | rfl | rfl | rfl | rfl | rfl | rfl | rfl | rfl | rfl | rfl | rfl | rfl
  ·exact V1i hs rfl h hc hb
  ·exact V1j hs rfl h hb
  ·exact V1q hs ih h hc hb
  ·exact V1r hs ih h hc hb
  ·exact V1p hs ih h hc hb
  ·exact V23 hs ih h hc hb
  ·exact V1l hs ih h hc hb
  ·exact V1m hs ih h hc hb
  ·exact V25 hs ih h hc hb
  ·exact V1o hs ih h hc hb
  ·exact V22 hs ih h hc hb
  ·exact V1n hs ih h hc hb
  ·exact V24 hs ih h hc hb
end
theorem V27 {l:List (List Int)} {v:List Int} (h:v ∈ l):v.length ≤ lms l:=by
 have:=Kw7 h
 unfold lms; omega
theorem V28 {s:K00} {ctx:List (List Int)} {t:K01} (h:Kz8 s ctx t=true):Kxp s s.fSize.toNat∧ctx.length ≤ 8∧(∀ q ∈ ctx,TyS s q)∧tsz t ≤ 400∧tOk (gN s.fSize true) (yN s.fSize true) ctx.length t=true:=by
 unfold Kz8 Kyy Kx9 at h
 simp only [Bool.and_eq_true,decide_eq_true_eq,List.all_eq_true] at h
 exact ⟨Kxq h.1.1,h.1.2.1,fun q hq=>h.1.2.2 q hq,h.2.1.2,h.2.2⟩
theorem V29 {s:K00} {ctx:List (List Int)} {t:K01} (h:Kz8 s ctx t=true):∃ x y,V0y s s.fSize.toNat ctx t x y:=by
 obtain ⟨h1,h2,h3,h4,h5⟩:=V28 h
 exact V26 h1 (tsz t) t ctx (Nat.le_refl _) h5 h3 (by omega)
theorem V2a {s:K00} {ctx:List (List Int)} {t:K01} (hc:lms ctx ≤ 1048576) (ht:tms t ≤ 1099511627776) :
  (Kz8 s ctx t=false∧Kdy (s,ctx,t)=some false∧Knf (s,ctx,t)=some none) ∨
  (Kz8 s ctx t=true∧Kdy (s,ctx,t)=some true∧∃ x y,V0y s s.fSize.toNat ctx t x y∧Knf (s,ctx,t)=some (some y)):=by
 have hl:∀ ty ∈ ctx,ty.length ≤ 1099511627776:=fun ty h=>by have:=V27 h; omega
 have hc':ctx.length ≤ 1048576:=by unfold lms at hc; omega
 have h1:=Kz9 s ctx t hc' hl ht
 have h2:=Kza s ctx t hc' hl ht
 cases h:Kz8 s ctx t with
 | false=>rw [h] at h1 h2; exact .inl ⟨rfl,h1,by simpa using h2⟩
 | true =>
  rw [h] at h1 h2
  obtain ⟨x,y,r⟩:=V29 h
  refine .inr ⟨rfl,h1,x,y,r,?_⟩
  rw [if_pos rfl,r.im,bs] at h2
  exact h2
theorem V2b (s:K00) (ctx:List (List Int)) (t:K01) (hc:lms ctx ≤ 1048576) (ht:tms t ≤ 1099511627776) :
  (Kfu (s,ctx,t)=some ([],[],false)∧Kni (s,ctx,t)=some ([],[],false)∧(Kz8 s ctx t=false∨∃ x y,V0y s s.fSize.toNat ctx t x y∧x.ffault ≠ 0)) ∨
  ∃ x y,V0y s s.fSize.toNat ctx t x y∧x.ffault=0∧Kz8 s ctx t=true∧Kfu (s,ctx,t)=some (x.fty,x.fneeds,true)∧Kni (s,ctx,t)=some (x.fty,x.fneeds,true)∧Knf (s,ctx,t)=some (some y):=by
 unfold Kfu Kni
 simp only
 rcases V2a (s:=s) hc ht with ⟨h0,h1,h2⟩ | ⟨h0,h1,x,y,r,h2⟩
 ·rw [h1,h2]
  exact .inl ⟨rfl,rfl,.inl h0⟩
 ·rw [h1,h2,bs,bs,if_pos rfl,r.sp,bs]
  by_cases hf:x.ffault=0
  ·obtain ⟨g,_,ns,hn,hl,_⟩:=r.gd hf
   have:=Kzb g
   obtain ⟨_,h8,_⟩:=V28 h0
   refine .inr ⟨x,y,r,hf,h0,by rw [if_neg (by simp [hf])],?_,rfl⟩
   simp only
   rw [if_neg (by rw [r.fa]; simp [hf]),r.ty,Kuj x.fty (by omega),bs,r.ne,Kuj x.fneeds (by rw [hn,Kxl]; omega),bs]
  ·refine .inl ⟨by rw [if_pos (bne_iff_ne.2 hf)],?_,.inr ⟨x,y,r,hf⟩⟩
   simp only
   rw [if_pos (by rw [r.fa]; exact bne_iff_ne.2 hf)]
theorem V2c (v a:List Int) (hv:v.length ≤ 1099511627776) (ha:a.length ≤ 1048576):∀ (l:List Int) (i:Nat) (out:List Int),a.drop i=l→out.length + l.length ≤ 1048576 →
  ∃ r,Kgp (v,a,out,(i:Int))=some r∧Koh (v,a,out,(i:Int))=some r∧r.length ≤ out.length + l.length:=by
 intro l
 induction l with
 | nil =>
  intro i out hd ho
  rw [Kgp.eq_def,Koh.eq_def]
  simp only
  rw [Kr1 (Ksf hd)]
  exact ⟨out,rfl,rfl,by omega⟩
 | cons x l ih =>
  intro i out hd ho
  obtain ⟨h1,h2,h3⟩:=Kse hd
  rw [List.length_cons] at ho
  rw [Kgp.eq_def,Koh.eq_def]
  simp only
  rw [Kr0 h1,if_pos rfl,if_pos rfl,h2,bs,bs,Kwy v x hv,Kx0 v x hv,bs,bs]
  cases v.contains x with
  | false =>
   obtain ⟨r,r1,r2,r3⟩:=ih (i + 1) out h3 (by omega)
   refine ⟨r,?_,?_,by rw [List.length_cons]; omega⟩
   ·rw [if_neg (by decide),bs,Kqz (by omega)]; exact r1
   ·rw [if_neg (by decide),bs,Kqz (by omega)]; exact r2
  | true =>
   obtain ⟨r,r1,r2,r3⟩:=ih (i + 1) (out ++ [(i:Int)]) h3 (by simp; omega)
   rw [List.length_append] at r3
   refine ⟨r,?_,?_,by simp at r3 ⊢; omega⟩
   ·rw [if_pos rfl,Kug (by simp; omega),bs,bs,Kqz (by omega)]; exact r1
   ·rw [if_pos rfl,Kug (by simp; omega),bs,bs,Kqz (by omega)]; exact r2
theorem V2d (x0:K00) (x1:List Int) (x2:List (List Int)) (x3:K01) (b0:sms x0 ≤ 1048576) (b1:x1.length ≤ 1048576) (b2:lms x2 ≤ 1048576) (b3:tms x3 ≤ 1048576) (h3:tln x3) :
  ∃ w0,Kgs (x0,x1,x2,x3)=some w0∧Kok (x0,x1,x2,x3)=some w0∧w0.length ≤ 1099511627776:=by
 unfold Kgs Kok
 simp only
 rcases V2b x0 x2 x3 b2 (by omega) with ⟨h1,h2,_⟩ | ⟨x,y,r,hf,hi,h1,h2,_⟩
 ·rw [h1,h2]
  exact ⟨[],rfl,rfl,by decide⟩
 ·obtain ⟨g,_,ns,hn,hl,hb⟩:=r.gd hf
  obtain ⟨hs,h8,_⟩:=V28 hi
  have hln:x.fneeds.length=ns.length:=by rw [hn,Kxl]
  rw [h1,h2]
  simp only [bs,if_true]
  rw [sVw x0 x1 (by omega),iVw x0 x1 (by omega),bs,bs]
  cases vwB x0 x1 with
  | false=>exact ⟨[],rfl,rfl,by decide⟩
  | true =>
   obtain ⟨w,r1,r2,r3⟩:=V2c x1 x.fneeds (by omega) (by omega) x.fneeds 0 [] rfl (by simp; omega)
   rw [show (0:Int)=((0:Nat):Int) from rfl,r1,r2]
   exact ⟨w,rfl,rfl,by simp at r3; omega⟩
theorem V2e (x0:K00) (x1:List Int) (x2:List (List Int)) (x3:K01) (hx0:sln x0) (hx1:x1.length ≤ 9223372036854775807) (hx2:lln x2) (hx3:tln x3):Kqu (x0,x1,x2,x3)=some true:=by
 unfold Kqu
 simp only
 by_cases gx1:x1.length ≤ 1048576
 ·rw [decide_eq_false (by omega),if_neg (by decide)]
  rw [Kvr x0 (1048576) hx0 (by omega) (by omega),bs]
  rcases Ku5 (1048576) (sms x0) with ⟨e0,l0⟩ | ⟨e0,l0⟩
  ·rw [e0]; rfl
  ·rw [e0,decide_eq_false (by omega),if_neg (by decide)]
   rw [Kxh x2 (1048576 - (sms x0:Int)) hx2 (by omega) (by omega),bs]
   rcases Ku5 (1048576 - (sms x0:Int)) (lms x2) with ⟨e1,l1⟩ | ⟨e1,l1⟩
   ·rw [e1]; rfl
   ·rw [e1,decide_eq_false (by omega),if_neg (by decide)]
    rw [Ku8 x3 (1048576 - (sms x0:Int) - (lms x2:Int)) hx3 (by omega) (by omega),bs]
    rcases Ku5 (1048576 - (sms x0:Int) - (lms x2:Int)) (tms x3) with ⟨e2,l2⟩ | ⟨e2,l2⟩
    ·rw [e2]; rfl
    ·rw [e2,decide_eq_false (by omega),if_neg (by decide)]
     have bx0:sms x0 ≤ 1048576:=by omega
     have bx2:lms x2 ≤ 1048576:=by omega
     have bx3:tms x3 ≤ 1048576:=by omega
     obtain ⟨w0,s1,s2,c0⟩:=V2d x0 x1 x2 x3 bx0 gx1 bx2 bx3 hx3
     obtain ⟨Mx0,mx0⟩:=Kwh x0 (1) (by omega) (by omega)
     have mx1:=Kvv x1 (1 + sms x0) (by omega) (by omega)
     have qx2:=Kxf (l:=x2) (by omega)
     have zx2:=qx2.2
     obtain ⟨Mx2,mx2⟩:=Kwb x2 (1 + sms x0 + x1.length) qx2 (by omega)
     obtain ⟨Mx3,mx3⟩:=Kw5 x3 (1 + sms x0 + x1.length + lct x2) (by omega) (by omega)
     have zx3:=Kvz x3
     have n0:=Kvv w0 (1) (by omega) (by omega)
     have n0':=Kvx w0.length (1) (by omega) (by omega)
     rw [show ((1:Nat):Int)=1 from rfl] at mx0 n0 n0'
     simp only [s1,s2,bs,Kvs (s:=x0) (by omega),Kvt (s:=x0) (by omega),Kr4 x1 (by omega),Kr9 x1 (by omega),Kxj x2 (by omega),Kw9 x2 (Kxf (by omega)),Kua x3 (by omega),Kuc x3 (by omega),Kr9 w0 (by omega),mx0,mx1,mx2,mx3,n0,n0',Kw6,if_true,if_false,Bool.false_eq_true,Kr7,Bool.not_true,Bool.not_false,Kwd,beq_self_eq_true]
     repeat (rw [decide_eq_false (by omega)]; simp only [bs,Bool.false_eq_true,if_false,if_true,Kr7,Kw6,Bool.not_true,n0,n0'])
 ·rw [decide_eq_true (by omega),if_pos rfl]
end Go.Am
