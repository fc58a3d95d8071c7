/- Plain laws of the printed functions. -/
import Derived.Test.YtmcpomoofkjfcaaGreatPET1
set_option linter.unusedSimpArgs false
set_option linter.unusedVariables false
namespace Go.Am
theorem V3f (g:Nat) (h:g ≤ 15):Ktw (3 + (g:Int))=(3,(g:Int)):=by
 rcases Kty (3 + (g:Int)) with h | h | h | h | h | h | h | h <;> first | omega | (obtain ⟨_,e⟩:=h; rw [e]; congr 1; omega)
theorem V3g (g:Nat) (h:g ≤ 15):Ktw (19 + (g:Int))=(4,(g:Int)):=by
 rcases Kty (19 + (g:Int)) with h | h | h | h | h | h | h | h <;> first | omega | (obtain ⟨_,e⟩:=h; rw [e]; congr 1; omega)
theorem V3h (g:Nat) (h:g ≤ 15):Ktp (3 + (g:Int))=true:=by unfold Ktp inB; simp; omega
theorem V3i (g:Nat) (h:g ≤ 15):Ktp (19 + (g:Int))=false:=by unfold Ktp inB; simp; omega
theorem V3j (g:Nat) (h:g ≤ 15):Ktq (3 + (g:Int))=false:=by unfold Ktq inB; simp; omega
theorem V3k (g:Nat) (h:g ≤ 15):Ktq (19 + (g:Int))=true:=by unfold Ktq inB; simp; omega
theorem V3l (g:Nat) (h:g ≤ 15):Kcq (3 + (g:Int))=some (g:Int):=by
 rw [Kue (by rcases Ktv (3 + (g:Int)) with h | h | h | h <;> omega)]
 unfold Kuc
 rw [if_neg (by omega),if_neg (by omega)]
 congr 1; omega
theorem V3m (g:Nat) (h:g ≤ 15):Kcq (19 + (g:Int))=some (g:Int):=by
 rw [Kue (by rcases Ktv (19 + (g:Int)) with h | h | h | h <;> omega)]
 unfold Kuc
 rw [if_neg (by omega),if_pos (by omega)]
 congr 1; omega
section
variable {s:K00} {n:Nat} (hs:Kzc s n) {ctx:List (List Int)} {N:Int} {ty:List Int} {ks:List K01}
include hs
structure V3n (s:K00) (n:Nat) (q:List Int) (c:Int):Prop where
 arr:(Ktw c).1=3→∃ (g:Nat) (a b:List Int),g < n∧g ≤ 15∧c=3 + (g:Int)∧q=c :: (a ++ b)∧V11 s (3 + (g:Int)) a b
 pair:(Ktw c).1=1→∃ (a b:List Int),c=1∧q=c :: (a ++ b)∧V11 s 1 a b
 sum:(Ktw c).1=2→∃ (a b:List Int),c=2∧q=c :: (a ++ b)∧V11 s 2 a b
 box:(Ktw c).1=4→∃ (g:Nat) (a:List Int),g < n∧g ≤ 15∧c=19 + (g:Int)∧q=c :: a∧V12 s (19 + (g:Int)) a
 arrB:Ktp c=true ↔ (Ktw c).1=3
 boxB:Ktq c=true ↔ (Ktw c).1=4
 one:c=1 ↔ (Ktw c).1=1
 two:c=2 ↔ (Ktw c).1=2
theorem V3o {q:List Int} (hq:TyS s q) {c:Int} {r:List Int} (e:q=c :: r):V3n s n q c:=by
 rcases V17 hs hq with rfl | ⟨a,b,rfl,P⟩ | ⟨a,b,rfl,P⟩ | ⟨g,a,b,hg,h15,rfl,P⟩ | ⟨g,a,hg,h15,rfl,P⟩
 ·cases e
  refine ⟨fun h=>?_,fun h=>?_,fun h=>?_,fun h=>?_,by decide,by decide,by decide,by decide⟩ <;> exact absurd h (by decide)
 ·cases e
  refine ⟨fun h=>absurd h (by decide),fun _=>⟨a,b,rfl,rfl,P⟩,fun h=>absurd h (by decide),fun h=>absurd h (by decide),by decide,by decide,by decide,by decide⟩
 ·cases e
  refine ⟨fun h=>absurd h (by decide),fun h=>absurd h (by decide),fun _=>⟨a,b,rfl,rfl,P⟩,fun h=>absurd h (by decide),by decide,by decide,by decide,by decide⟩
 ·cases e
  have hsh:=V3f g h15
  refine ⟨fun _=>⟨g,a,b,hg,h15,rfl,rfl,P⟩,fun h=>?_,fun h=>?_,fun h=>?_,?_,?_,?_,?_⟩
  ·rw [hsh] at h; simp at h
  ·rw [hsh] at h; simp at h
  ·rw [hsh] at h; simp at h
  ·rw [hsh,V3h g h15]; simp
  ·rw [hsh,V3j g h15]; simp
  ·rw [hsh]; simp; omega
  ·rw [hsh]; simp; omega
 ·cases e
  have hsh:=V3g g h15
  refine ⟨fun h=>?_,fun h=>?_,fun h=>?_,fun _=>⟨g,_,hg,h15,rfl,rfl,P⟩,?_,?_,?_,?_⟩
  ·rw [hsh] at h; simp at h
  ·rw [hsh] at h; simp at h
  ·rw [hsh] at h; simp at h
  ·rw [hsh,V3i g h15]; simp
  ·rw [hsh,V3k g h15]; simp
  ·rw [hsh]; simp; omega
  ·rw [hsh]; simp; omega
theorem V3p (ih:V32 s n (tsz (⟨10,N,ty,ks⟩:K01))) (h:tOk (gN s.fSize true) (yN s.fSize true) ctx.length ⟨10,N,ty,ks⟩=true) (hc:∀ q ∈ ctx,TyS s q) (hb:ctx.length + 2 * tsz (⟨10,N,ty,ks⟩:K01) ≤ 1000000):∃ x y,V2l s n ctx ⟨10,N,ty,ks⟩ x y:=by
 obtain ⟨k0,k1,rfl,p0,p1⟩:=nd2 h (Nat.le_refl _) rfl
 have hz:=Kyz 10 N ty k0 k1
 obtain ⟨x0,y0,r0⟩:=ih k0 ctx p0 hc (by omega)
 obtain ⟨x1,y1,r1⟩:=ih k1 ctx p1 hc (by omega)
 by_cases f0:x0.ffault=0
 rotate_left
 ·exact V34 (by decide) (by decide) (by decide) hb r0 f0
 obtain ⟨g0,q0,a,na,la,ba⟩:=r0.gd f0
 obtain ⟨c0,t0,ht0,hn0,hz0⟩:=V37 hs g0
 have L0:=V0y g0
 have e0:Kfu (s,ctx,⟨10,N,ty,[k0,k1]⟩,0)=some x0:=V2m (i:=0) rfl r0 f0
 have C:=V3o hs g0 ht0
 have i0:idx x0.fty 0=some c0:=by rw [ht0]; rfl
 by_cases z0:(Ktw c0).1=3
 rotate_left
 ·have w0:Ktp c0=false:=by cases h:Ktp c0 with | true=>exact absurd (C.arrB.1 h) z0 | false=>rfl
  refine V2l.bad (f:=6) (p:=[]) ?_ (V1r (by omega) (V2p (m:=[]) rfl (V2y (by decide)) r0 (by simp; omega) f0 (by rw [ht0,V1y,if_neg z0]) (by decide))) (by decide) (by simp; omega)
  rw [Kfs.eq_def]
  simp [e0,f0,i0,Kts,w0,Kel]
 obtain ⟨g,p,q,hg,h15,hcg,hq,P⟩:=C.arr z0
 have w0:Ktp c0=true:=C.arrB.2 z0
 have o0:=V2r (out:=[]) (nd:=[]) (us:=[]) (w:=0) (t:=⟨10,N,ty,[k0,k1]⟩) (m:=[]) rfl (V2y (by decide)) r0 (by simp; omega) f0 (by rw [ht0,V1y,if_pos z0]) (V1u (by decide)) na (by simp <;> omega) (by simp) (by simp) (by simp) (by simp)
 have m1:V1g ⟨10,N,ty,[k0,k1]⟩ [y0] 1=some []:=V30 (by decide) (V2s (by decide) rfl)
 by_cases f1:x1.ffault=0
 rotate_left
 ·have e1:Kfu (s,ctx,⟨10,N,ty,[k0,k1]⟩,1)=some ⟨[],[],x1.ffault,1 :: x1.fpath⟩:=V2n (i:=1) rfl r1 (by omega) f1
  refine V2l.bad (f:=x1.ffault) (p:=1 :: x1.fpath) ?_ (V1r (by omega) (o0.trans (V2o (m:=[]) rfl m1 r1 (by omega) (by simp; omega) f1))) f1 (by have:=r1.pl; simp; omega)
  rw [Kfs.eq_def]
  simp [e0,f0,i0,Kts,w0,e1,f1]
 obtain ⟨g1,q1,b,nb,lb,bb⟩:=r1.gd f1
 obtain ⟨c1,t1,ht1,hn1,hz1⟩:=V37 hs g1
 have L1:=V0y g1
 have e1:Kfu (s,ctx,⟨10,N,ty,[k0,k1]⟩,1)=some x1:=V2m (i:=1) rfl r1 f1
 have hp0:Kf5 (x0.fty,0)=some p:=by rw [hq,hcg]; exact P.p0
 have hp1:Kf5 (x0.fty,1)=some q:=by rw [hq,hcg]; exact P.p1
 have hpp:Kki y0.fty=some [p,q]:=by rw [r0.ty,hq,hcg]; exact P.pp
 have Lp:=V0y P.ya
 have Lq:=V0y P.yb
 have hsm:=Kyq x1.fty p (by omega)
 have hsi:=Kys x1.fty p (by omega)
 have ha:V1m ⟨10,N,ty,[k0,k1]⟩ [y0] 1 y1=some (!(x1.fty == p)):=by
  unfold V1m
  rw [if_pos (show ((10:Int) == 10)=true by decide),if_pos (by decide),V23,bs,hpp,bs,V23,bs,r1.ty,hsi,bs]
 by_cases hqq:x1.fty=p
 rotate_left
 ·rw [show (x1.fty == p)=false from beq_eq_false_iff_ne.2 hqq] at hsm ha
  refine V2l.bad (f:=3) (p:=[]) ?_ (V1r (by omega) (o0.trans (V2q (m:=[]) rfl m1 r1 (by simp; omega) f1 (by rw [ht1]; exact V1v (.inr (by decide))) ha))) (by decide) (by simp; omega)
  rw [Kfs.eq_def]
  simp [e0,f0,i0,Kts,w0,e1,f1,hp0,hsm,Kel]
 rw [show (x1.fty == p)=true from beq_iff_eq.2 hqq] at hsm ha
 have o1:=V2r (out:=[y0]) (nd:=[Kz7 a]) (us:=[Kz7 []]) (w:=1) (t:=⟨10,N,ty,[k0,k1]⟩) (m:=[]) rfl m1 r1 (by simp; omega) f1 (by rw [ht1]; exact V1v (.inr (by decide))) ha nb (by simp <;> omega) (by simp) (by simp) (by simp) (by simp)
 have hf:=V2f (N:=N) (ty:=ty) (ks:=[k0,k1]) (ctx:=ctx) (us:=[Kz7 [],Kz7 []]) (z:=Kz7 (List.replicate ctx.length 0)) (y0:=y0) (y1:=y1) hs hg (p:=p) (q:=q) (by rw [r0.ty,hq,hcg]) P ba bb (by omega) (by omega)
 have im:=V33 (q:=q) (ns:=Kzk s n a (Kzl s n g b)) (kids:=[y0,y1]) Lq (V1s (p0:=⟨s⟩) (t:=⟨10,N,ty,[k0,k1]⟩) (ctx:=ctx) (by omega) (o0.trans (o1.trans (V1j (Nat.le_refl _)))) hf)
 have lsc:(Kzl s n g b).length=ctx.length:=by unfold Kzl; rw [List.length_map]; exact lb
 refine V2l.good (q:=q) (ns:=Kzk s n a (Kzl s n g b)) (kids:=[y0,y1]) ?_ im (by omega) P.yb (by unfold Kzk; rw [List.length_zipWith]; omega) (Kzq hs ba (Kzr hs hg bb)) rfl (kd2 (V2k.mk' (V2s (by decide) rfl) r0 f0 (fun _ h=>by cases h) rfl) (V2k.mk' (V2s (by decide) rfl) r1 f1 (fun _ h=>by cases h) rfl))
 have hgr:Kcq c0=some (g:Int):=by rw [hcg]; exact V3l g h15
 rw [Kfs.eq_def]
 simp [e0,f0,i0,Kts,w0,e1,f1,hp0,hp1,hsm,hgr,na,nb,Kzw hs g hg a b ba bb (by omega) (by omega)]
theorem V3q (ih:V32 s n (tsz (⟨5,N,ty,ks⟩:K01))) (h:tOk (gN s.fSize true) (yN s.fSize true) ctx.length ⟨5,N,ty,ks⟩=true) (hc:∀ q ∈ ctx,TyS s q) (hb:ctx.length + 2 * tsz (⟨5,N,ty,ks⟩:K01) ≤ 1000000):∃ x y,V2l s n ctx ⟨5,N,ty,ks⟩ x y:=by
 obtain ⟨k0,k1,rfl,p0,p1⟩:=nd2 h (Nat.le_refl _) rfl
 have hz:=Kyz 5 N ty k0 k1
 obtain ⟨g,hN,hg⟩:=V1a hs (V1c h rfl)
 simp only at hN
 subst hN
 obtain ⟨x0,y0,r0⟩:=ih k0 ctx p0 hc (by omega)
 by_cases f0:x0.ffault=0
 rotate_left
 ·exact V34 (by decide) (by decide) (by decide) hb r0 f0
 obtain ⟨g0,q0,a,na,la,ba⟩:=r0.gd f0
 obtain ⟨c0,t0,ht0,hn0,hz0⟩:=V37 hs g0
 have L0:=V0y g0
 have e0:Kfu (s,ctx,⟨5,(g:Int),ty,[k0,k1]⟩,0)=some x0:=V2m (i:=0) rfl r0 f0
 have C:=V3o hs g0 ht0
 have i0:idx x0.fty 0=some c0:=by rw [ht0]; rfl
 by_cases z0:(Ktw c0).1=1
 rotate_left
 ·have w0:c0 ≠ 1:=fun h=>z0 (C.one.1 h)
  refine V2l.bad (f:=4) (p:=[]) ?_ (V1r (by omega) (V2p (m:=[]) rfl (V2y (by decide)) r0 (by simp; omega) f0 (by rw [ht0,V1z hs hg,if_neg z0]) (by decide))) (by decide) (by simp; omega)
  rw [Kfs.eq_def]
  simp [e0,f0,i0,Kft.eq_def,w0,Kel]
 obtain ⟨p,q,hcg,hq,P⟩:=C.pair z0
 have hle:=sLe hs.tab (Kze hs) hg
 cases hl:le s n 1 g with
 | false =>
  have hl2:Kb0 (s,1,(g:Int))=some false:=by rw [← hl]; exact hle
  refine V2l.bad (f:=8) (p:=[]) ?_ (V1r (by omega) (V2p (m:=[]) rfl (V2y (by decide)) r0 (by simp; omega) f0 (by rw [ht0,V1z hs hg,if_pos z0,hl]; rfl) (by decide))) (by decide) (by simp; omega)
  rw [Kfs.eq_def]
  simp [e0,f0,i0,Kft.eq_def,hcg,hl2,Kel]
 | true =>
 have hl2:Kb0 (s,1,(g:Int))=some true:=by rw [← hl]; exact hle
 have o0:=V2r (out:=[]) (nd:=[]) (us:=[]) (w:=0) (t:=⟨5,(g:Int),ty,[k0,k1]⟩) (m:=[]) rfl (V2y (by decide)) r0 (by simp; omega) f0 (by rw [ht0,V1z hs hg,if_pos z0,hl]; rfl) (V1t (show (5:Int) ≠ 10 by decide)) na (by simp <;> omega) (by simp) (by simp) (by simp) (by simp)
 have hp0:Kf5 (x0.fty,0)=some p:=by rw [hq,hcg]; exact P.p0
 have hp1:Kf5 (x0.fty,1)=some q:=by rw [hq,hcg]; exact P.p1
 have ad:Kkl (⟨5,(g:Int),ty,[k0,k1]⟩,((1:Nat):Int),y0.fty)=some [q,p]:=by rw [r0.ty,hq,hcg]; exact V2u P
 have hm':∀ z ∈ [q,p],TyS s z:=fun z hz=>by simp at hz; rcases hz with rfl | rfl; exact P.yb; exact P.ya
 have m1:V1g ⟨5,(g:Int),ty,[k0,k1]⟩ [y0] 1=some [q,p]:=V30 (by decide) ad
 have p1':V1b s ([q,p] ++ ctx).length k1 (tsz (⟨5,(g:Int),ty,[k0,k1]⟩:K01)):=by
  have e:([q,p] ++ ctx).length=ctx.length + Kv2 5 1:=by simp [Kv2]
  rw [e]; exact p1
 obtain ⟨x1,y1,r1⟩:=ih k1 ([q,p] ++ ctx) p1' (fun z hz=>by rcases List.mem_append.1 hz with hz | hz; exact hm' z hz; exact hc z hz) (by simp; omega)
 have hwc:=V0a ctx [q,p] (by simp; omega)
 by_cases f1:x1.ffault=0
 rotate_left
 ·have e1:Kfu (s,q :: p :: ctx,⟨5,(g:Int),ty,[k0,k1]⟩,1)=some ⟨[],[],x1.ffault,1 :: x1.fpath⟩:=V2n (i:=1) rfl r1 (by omega) f1
  refine V2l.bad (f:=x1.ffault) (p:=1 :: x1.fpath) ?_ (V1r (by omega) (o0.trans (V2o (m:=[q,p]) rfl m1 r1 (by omega) (by simp; omega) f1))) f1 (by have:=r1.pl; simp; omega)
  rw [Kfs.eq_def]
  simp [e0,f0,i0,Kft.eq_def,hcg,hl2,hp0,hp1,hwc,e1,f1]
 obtain ⟨g1,q1,b,nb,lb,bb⟩:=r1.gd f1
 obtain ⟨c1,t1,ht1,hn1,hz1⟩:=V37 hs g1
 have L1:=V0y g1
 have e1:Kfu (s,q :: p :: ctx,⟨5,(g:Int),ty,[k0,k1]⟩,1)=some x1:=V2m (i:=1) rfl r1 f1
 have lb':b.length=ctx.length + 2:=by rw [lb]; simp
 obtain ⟨u0,u1,b',rfl⟩:∃ u0 u1 b',b=u0 :: u1 :: b':=by match b,lb' with | u0 :: u1 :: b',_=>exact ⟨u0,u1,b',rfl⟩ | [_],h=>simp at h | [],h=>simp at h
 obtain ⟨hu0,bb1⟩:=Kzo bb
 obtain ⟨hu1,bb'⟩:=Kzo bb1
 have o1:=V2r (out:=[y0]) (nd:=[Kz7 a]) (us:=[Kz7 []]) (w:=1) (t:=⟨5,(g:Int),ty,[k0,k1]⟩) (m:=[q,p]) rfl m1 r1 (by simp; omega) f1 (by rw [ht1]; exact V1v (.inr (by decide))) (V1t (show (5:Int) ≠ 10 by decide)) nb (by simp <;> omega) (by simp) (by simp) (by simp) (by simp)
 simp only [List.length_cons,List.length_nil,Nat.zero_add,List.drop_succ_cons,List.drop_zero,List.take_succ_cons,List.take_zero,List.nil_append] at o1
 have hl0:=o0.trans (o1.trans (V1j (Nat.le_refl _)))
 have lbc:b'.length=ctx.length:=by simp at lb'; omega
 have i1:idx x1.fneeds 0=some (u0:Int):=by rw [nb]; rfl
 have hcut:cut x1.fneeds (some (2:Int)) none none=some (Kz7 b'):=by
  rw [nb]
  have:=V1l (l:=Kz7 (u0 :: u1 :: b')) (m:=2) (by simp [Kz7])
  exact this
 have hcp:=Kvs (Kz7 b') (by rw [Kz8]; omega)
 have i2:idx x1.fneeds 1=some (u1:Int):=by rw [nb]; rfl
 have hle0:=sLe hs.tab hu0 hg
 have hle1:=sLe hs.tab hu1 hg
 have hf:=V2g (ty:=ty) (ks:=[k0,k1]) (ctx:=ctx) (z:=Kz7 (List.replicate ctx.length 0)) (y0:=y0) (y1:=y1) (us':=Kz7 []) (u:=[u0,u1]) hs hg (fun x hx=>by simp at hx; rcases hx with rfl | rfl; exact hu0; exact hu1) (by simp) ba bb' (by omega) (by omega) (by rw [r1.ty]; omega)
 simp only [List.all_cons,List.all_nil,Bool.and_true] at hf
 have es:=e1
 cases hal:(le s n u0 g && le s n u1 g) with
 | false =>
  rw [hal,if_neg (by decide)] at hf
  refine V2l.bad (f:=9) (p:=[]) ?_ (V1s (by omega) hl0 hf) (by decide) (by simp; omega)
  rw [Kfs.eq_def]
  simp [e0,f0,i0,Kft.eq_def,hcg,hl2,hp0,hp1,hwc,e1,f1,i1,i2,hcut,hcp,hle0,hle1,Kel]
  cases q1:le s n u1 g with
  | false=>simp
  | true=>rw [q1,Bool.and_true] at hal; simp [hal]
 | true =>
  rw [hal,if_pos rfl] at hf
  have im:=V33 (q:=y1.fty) (ns:=Kzk s n (Kzl s n g a) b') (kids:=[y0,y1]) (by rw [r1.ty]; omega) (V1s (by omega) hl0 hf)
  rw [r1.ty] at im
  have lsc:(Kzl s n g a).length=ctx.length:=by unfold Kzl; rw [List.length_map]; exact la
  have hsc:=Kzr hs hg ba
  have hz0:=Kzu hs hsc
  rw [lsc] at hz0
  have hsum:=Kzw hs g hg (List.replicate ctx.length 0) a (fun x hx=>by rw [List.eq_of_mem_replicate hx]; exact Kzf hs) ba (by simp; omega) (by simp [la])
  rw [hz0] at hsum
  have hs2:=Kzx hs (Kzl s n g a) b' hsc bb' (by omega) (by omega)
  refine V2l.good (q:=x1.fty) (ns:=Kzk s n (Kzl s n g a) b') (kids:=[y0,y1]) ?_ im (by omega) g1 (by unfold Kzk; rw [List.length_zipWith]; omega) (Kzq hs hsc bb') rfl (kd2 (V2k.mk' (V2s (by decide) rfl) r0 f0 (fun _ h=>by cases h) rfl) (V2k.mk' ad r1 f1 hm' rfl))
  rw [Kfs.eq_def]
  rw [Bool.and_eq_true] at hal
  simp [e0,f0,i0,Kft.eq_def,hcg,hl2,hp0,hp1,hwc,e1,f1,i1,i2,hcut,hcp,hle0,hle1,hal.1,hal.2,na,V09 ctx.length (by omega),hsum,hs2]
theorem V3r (ih:V32 s n (tsz (⟨12,N,ty,ks⟩:K01))) (h:tOk (gN s.fSize true) (yN s.fSize true) ctx.length ⟨12,N,ty,ks⟩=true) (hc:∀ q ∈ ctx,TyS s q) (hb:ctx.length + 2 * tsz (⟨12,N,ty,ks⟩:K01) ≤ 1000000):∃ x y,V2l s n ctx ⟨12,N,ty,ks⟩ x y:=by
 obtain ⟨k0,k1,rfl,p0,p1⟩:=nd2 h (Nat.le_refl _) rfl
 have hz:=Kyz 12 N ty k0 k1
 obtain ⟨g,hN,hg⟩:=V1a hs (V1c h rfl)
 simp only at hN
 subst hN
 obtain ⟨x0,y0,r0⟩:=ih k0 ctx p0 hc (by omega)
 by_cases f0:x0.ffault=0
 rotate_left
 ·exact V34 (by decide) (by decide) (by decide) hb r0 f0
 obtain ⟨g0,q0,a,na,la,ba⟩:=r0.gd f0
 obtain ⟨c0,t0,ht0,hn0,hz0⟩:=V37 hs g0
 have L0:=V0y g0
 have e0:Kfu (s,ctx,⟨12,(g:Int),ty,[k0,k1]⟩,0)=some x0:=V2m (i:=0) rfl r0 f0
 have C:=V3o hs g0 ht0
 have i0:idx x0.fty 0=some c0:=by rw [ht0]; rfl
 by_cases z0:(Ktw c0).1=4
 rotate_left
 ·have w0:Ktq c0=false:=by cases h:Ktq c0 with | true=>exact absurd (C.boxB.1 h) z0 | false=>rfl
  refine V2l.bad (f:=7) (p:=[]) ?_ (V1r (by omega) (V2p (m:=[]) rfl (V2y (by decide)) r0 (by simp; omega) f0 (by rw [ht0,V21 hs hg,if_neg z0]) (by decide))) (by decide) (by simp; omega)
  rw [Kfs.eq_def]
  simp [e0,f0,i0,Kft.eq_def,Ktt,w0,Kel]
 obtain ⟨m,p,hm,h15,hcg,hq,P⟩:=C.box z0
 have w0:Ktq c0=true:=C.boxB.2 z0
 have hle:=sLe hs.tab (Kze hs) hg
 cases hl:le s n 1 g with
 | false =>
  have hl2:Kb0 (s,1,(g:Int))=some false:=by rw [← hl]; exact hle
  refine V2l.bad (f:=8) (p:=[]) ?_ (V1r (by omega) (V2p (m:=[]) rfl (V2y (by decide)) r0 (by simp; omega) f0 (by rw [ht0,V21 hs hg,if_pos z0,hl]; rfl) (by decide))) (by decide) (by simp; omega)
  rw [Kfs.eq_def]
  simp [e0,f0,i0,Kft.eq_def,Ktt,w0,hl2,Kel]
 | true =>
 have hl2:Kb0 (s,1,(g:Int))=some true:=by rw [← hl]; exact hle
 have o0:=V2r (out:=[]) (nd:=[]) (us:=[]) (w:=0) (t:=⟨12,(g:Int),ty,[k0,k1]⟩) (m:=[]) rfl (V2y (by decide)) r0 (by simp; omega) f0 (by rw [ht0,V21 hs hg,if_pos z0,hl]; rfl) (V1t (show (12:Int) ≠ 10 by decide)) na (by simp <;> omega) (by simp) (by simp) (by simp) (by simp)
 have hp0:Kf5 (x0.fty,0)=some p:=by rw [hq,hcg]; exact P.p0
 have ad:Kkl (⟨12,(g:Int),ty,[k0,k1]⟩,((1:Nat):Int),y0.fty)=some [p]:=by rw [r0.ty,hq,hcg]; exact V2x P
 have hm':∀ z ∈ [p],TyS s z:=fun z hz=>by simp at hz; rw [hz]; exact P.ya
 have hgr:Kcq c0=some (m:Int):=by rw [hcg]; exact V3m m h15
 have m1:V1g ⟨12,(g:Int),ty,[k0,k1]⟩ [y0] 1=some [p]:=V30 (by decide) ad
 have p1':V1b s ([p] ++ ctx).length k1 (tsz (⟨12,(g:Int),ty,[k0,k1]⟩:K01)):=by
  have e:([p] ++ ctx).length=ctx.length + Kv2 12 1:=by simp [Kv2]
  rw [e]; exact p1
 obtain ⟨x1,y1,r1⟩:=ih k1 ([p] ++ ctx) p1' (fun z hz=>by rcases List.mem_append.1 hz with hz | hz; exact hm' z hz; exact hc z hz) (by simp; omega)
 have hwc:=V0a ctx [p] (by simp; omega)
 by_cases f1:x1.ffault=0
 rotate_left
 ·have e1:Kfu (s,p :: ctx,⟨12,(g:Int),ty,[k0,k1]⟩,1)=some ⟨[],[],x1.ffault,1 :: x1.fpath⟩:=V2n (i:=1) rfl r1 (by omega) f1
  refine V2l.bad (f:=x1.ffault) (p:=1 :: x1.fpath) ?_ (V1r (by omega) (o0.trans (V2o (m:=[p]) rfl m1 r1 (by omega) (by simp; omega) f1))) f1 (by have:=r1.pl; simp; omega)
  rw [Kfs.eq_def]
  simp [e0,f0,i0,Kft.eq_def,Ktt,w0,hl2,hp0,hwc,e1,f1]
 obtain ⟨g1,q1,b,nb,lb,bb⟩:=r1.gd f1
 obtain ⟨c1,t1,ht1,hn1,hz1⟩:=V37 hs g1
 have L1:=V0y g1
 have e1:Kfu (s,p :: ctx,⟨12,(g:Int),ty,[k0,k1]⟩,1)=some x1:=V2m (i:=1) rfl r1 f1
 have lb':b.length=ctx.length + 1:=by rw [lb]; simp
 obtain ⟨u0,b',rfl⟩:∃ u0 b',b=u0 :: b':=by match b,lb' with | u0 :: b',_=>exact ⟨u0,b',rfl⟩ | [],h=>simp at h
 obtain ⟨hu0,bb'⟩:=Kzo bb
 have o1:=V2r (out:=[y0]) (nd:=[Kz7 a]) (us:=[Kz7 []]) (w:=1) (t:=⟨12,(g:Int),ty,[k0,k1]⟩) (m:=[p]) rfl m1 r1 (by simp; omega) f1 (by rw [ht1]; exact V1v (.inr (by decide))) (V1t (show (12:Int) ≠ 10 by decide)) nb (by simp <;> omega) (by simp) (by simp) (by simp) (by simp)
 simp only [List.length_cons,List.length_nil,Nat.zero_add,List.drop_succ_cons,List.drop_zero,List.take_succ_cons,List.take_zero,List.nil_append] at o1
 have hl0:=o0.trans (o1.trans (V1j (Nat.le_refl _)))
 have lbc:b'.length=ctx.length:=by simp at lb'; omega
 have i1:idx x1.fneeds 0=some (u0:Int):=by rw [nb]; rfl
 have hcut:cut x1.fneeds (some (1:Int)) none none=some (Kz7 b'):=by
  rw [nb]
  have:=V1l (l:=Kz7 (u0 :: b')) (m:=1) (by simp [Kz7])
  exact this
 have hcp:=Kvs (Kz7 b') (by rw [Kz8]; omega)
 have hmul:=Ksv hs.tab hg hm
 have htm:=Ksq hs.tab hg hm
 have hle0:=sLe hs.tab hu0 htm
 have hf:=V2h (ty:=ty) (ks:=[k0,k1]) (ctx:=ctx) (z:=Kz7 (List.replicate ctx.length 0)) (y0:=y0) (y1:=y1) (us':=Kz7 []) (u:=[u0]) hs hg hm (p:=p) (by rw [r0.ty,hq,hcg]) (fun x hx=>by simp at hx; rw [hx]; exact hu0) (by simp) ba bb' (by omega) (by omega) (by rw [r1.ty]; omega)
 simp only [List.all_cons,List.all_nil,Bool.and_true] at hf
 have es:=e1
 cases hal:(le s n u0 (ti s n g m)) with
 | false =>
  rw [hal,if_neg (by decide)] at hf
  refine V2l.bad (f:=9) (p:=[]) ?_ (V1s (by omega) hl0 hf) (by decide) (by simp; omega)
  rw [Kfs.eq_def]
  simp [e0,f0,i0,Kft.eq_def,Ktt,w0,hl2,hp0,hwc,e1,f1,i1,hcut,hcp,hgr,hmul,hle0,hal,Kel]
 | true =>
  rw [hal,if_pos rfl] at hf
  have im:=V33 (q:=y1.fty) (ns:=Kzk s n (Kzl s n g a) b') (kids:=[y0,y1]) (by rw [r1.ty]; omega) (V1s (by omega) hl0 hf)
  rw [r1.ty] at im
  have lsc:(Kzl s n g a).length=ctx.length:=by unfold Kzl; rw [List.length_map]; exact la
  have hsc:=Kzr hs hg ba
  have hz0:=Kzu hs hsc
  rw [lsc] at hz0
  have hsum:=Kzw hs g hg (List.replicate ctx.length 0) a (fun x hx=>by rw [List.eq_of_mem_replicate hx]; exact Kzf hs) ba (by simp; omega) (by simp [la])
  rw [hz0] at hsum
  have hs2:=Kzx hs (Kzl s n g a) b' hsc bb' (by omega) (by omega)
  refine V2l.good (q:=x1.fty) (ns:=Kzk s n (Kzl s n g a) b') (kids:=[y0,y1]) ?_ im (by omega) g1 (by unfold Kzk; rw [List.length_zipWith]; omega) (Kzq hs hsc bb') rfl (kd2 (V2k.mk' (V2s (by decide) rfl) r0 f0 (fun _ h=>by cases h) rfl) (V2k.mk' ad r1 f1 hm' rfl))
  rw [Kfs.eq_def]
  simp [e0,f0,i0,Kft.eq_def,Ktt,w0,hl2,hp0,hwc,e1,f1,i1,hcut,hcp,hgr,hmul,hle0,hal,na,V09 ctx.length (by omega),hsum,hs2]
theorem V3s (ih:V32 s n (tsz (⟨8,N,ty,ks⟩:K01))) (h:tOk (gN s.fSize true) (yN s.fSize true) ctx.length ⟨8,N,ty,ks⟩=true) (hc:∀ q ∈ ctx,TyS s q) (hb:ctx.length + 2 * tsz (⟨8,N,ty,ks⟩:K01) ≤ 1000000):∃ x y,V2l s n ctx ⟨8,N,ty,ks⟩ x y:=by
 obtain ⟨k0,k1,k2,rfl,p0,p1,p2⟩:=nd3 h (Nat.le_refl _) rfl
 have hz:=Kz0 8 N ty k0 k1 k2
 obtain ⟨g,hN,hg⟩:=V1a hs (V1c h rfl)
 simp only at hN
 subst hN
 obtain ⟨x0,y0,r0⟩:=ih k0 ctx p0 hc (by omega)
 by_cases f0:x0.ffault=0
 rotate_left
 ·exact V34 (by decide) (by decide) (by decide) hb r0 f0
 obtain ⟨g0,q0,a,na,la,ba⟩:=r0.gd f0
 obtain ⟨c0,t0,ht0,hn0,hz0⟩:=V37 hs g0
 have L0:=V0y g0
 have e0:Kfu (s,ctx,⟨8,(g:Int),ty,[k0,k1,k2]⟩,0)=some x0:=V2m (i:=0) rfl r0 f0
 have C:=V3o hs g0 ht0
 have i0:idx x0.fty 0=some c0:=by rw [ht0]; rfl
 by_cases z0:(Ktw c0).1=2
 rotate_left
 ·have w0:c0 ≠ 2:=fun h=>z0 (C.two.1 h)
  refine V2l.bad (f:=5) (p:=[]) ?_ (V1r (by omega) (V2p (m:=[]) rfl (V2y (by decide)) r0 (by simp; omega) f0 (by rw [ht0,V20 hs hg,if_neg z0]) (by decide))) (by decide) (by simp; omega)
  rw [Kfs.eq_def]
  simp [e0,f0,i0,Kft.eq_def,w0,Kel]
 obtain ⟨p,q,hcg,hq,P⟩:=C.sum z0
 have hle:=sLe hs.tab (Kze hs) hg
 cases hl:le s n 1 g with
 | false =>
  have hl2:Kb0 (s,1,(g:Int))=some false:=by rw [← hl]; exact hle
  refine V2l.bad (f:=8) (p:=[]) ?_ (V1r (by omega) (V2p (m:=[]) rfl (V2y (by decide)) r0 (by simp; omega) f0 (by rw [ht0,V20 hs hg,if_pos z0,hl]; rfl) (by decide))) (by decide) (by simp; omega)
  rw [Kfs.eq_def]
  simp [e0,f0,i0,Kft.eq_def,hcg,hl2,Kel]
 | true =>
 have hl2:Kb0 (s,1,(g:Int))=some true:=by rw [← hl]; exact hle
 have o0:=V2r (out:=[]) (nd:=[]) (us:=[]) (w:=0) (t:=⟨8,(g:Int),ty,[k0,k1,k2]⟩) (m:=[]) rfl (V2y (by decide)) r0 (by simp; omega) f0 (by rw [ht0,V20 hs hg,if_pos z0,hl]; rfl) (V1t (show (8:Int) ≠ 10 by decide)) na (by simp <;> omega) (by simp) (by simp) (by simp) (by simp)
 have hp0:Kf5 (x0.fty,0)=some p:=by rw [hq,hcg]; exact P.p0
 have hp1:Kf5 (x0.fty,1)=some q:=by rw [hq,hcg]; exact P.p1
 have ad1:Kkl (⟨8,(g:Int),ty,[k0,k1,k2]⟩,((1:Nat):Int),y0.fty)=some [p]:=by rw [r0.ty,hq,hcg]; exact V2v P
 have ad2:Kkl (⟨8,(g:Int),ty,[k0,k1,k2]⟩,((2:Nat):Int),y0.fty)=some [q]:=by rw [r0.ty,hq,hcg]; exact V2w P
 have hm1:∀ z ∈ [p],TyS s z:=fun z hz=>by simp at hz; rw [hz]; exact P.ya
 have hm2:∀ z ∈ [q],TyS s z:=fun z hz=>by simp at hz; rw [hz]; exact P.yb
 have m1:V1g ⟨8,(g:Int),ty,[k0,k1,k2]⟩ [y0] 1=some [p]:=V30 (by decide) ad1
 have p1':V1b s ([p] ++ ctx).length k1 (tsz (⟨8,(g:Int),ty,[k0,k1,k2]⟩:K01)):=by
  have e:([p] ++ ctx).length=ctx.length + Kv2 8 1:=by simp [Kv2]
  rw [e]; exact p1
 obtain ⟨x1,y1,r1⟩:=ih k1 ([p] ++ ctx) p1' (fun z hz=>by rcases List.mem_append.1 hz with hz | hz; exact hm1 z hz; exact hc z hz) (by simp; omega)
 have hw1:=V0a ctx [p] (by simp; omega)
 by_cases f1:x1.ffault=0
 rotate_left
 ·have e1:Kfu (s,p :: ctx,⟨8,(g:Int),ty,[k0,k1,k2]⟩,1)=some ⟨[],[],x1.ffault,1 :: x1.fpath⟩:=V2n (i:=1) rfl r1 (by omega) f1
  refine V2l.bad (f:=x1.ffault) (p:=1 :: x1.fpath) ?_ (V1r (by omega) (o0.trans (V2o (m:=[p]) rfl m1 r1 (by omega) (by simp; omega) f1))) f1 (by have:=r1.pl; simp; omega)
  rw [Kfs.eq_def]
  simp [e0,f0,i0,Kft.eq_def,hcg,hl2,hp0,hp1,hw1,e1,f1]
 obtain ⟨g1,q1,b,nb,lb,bb⟩:=r1.gd f1
 obtain ⟨c1,t1,ht1,hn1,hz1⟩:=V37 hs g1
 have L1:=V0y g1
 have e1:Kfu (s,p :: ctx,⟨8,(g:Int),ty,[k0,k1,k2]⟩,1)=some x1:=V2m (i:=1) rfl r1 f1
 have lb':b.length=ctx.length + 1:=by rw [lb]; simp
 obtain ⟨u0,b',rfl⟩:∃ u0 b',b=u0 :: b':=by match b,lb' with | u0 :: b',_=>exact ⟨u0,b',rfl⟩ | [],h=>simp at h
 obtain ⟨hu0,bb'⟩:=Kzo bb
 have lbc:b'.length=ctx.length:=by simp at lb'; omega
 have i1:idx x1.fneeds 0=some (u0:Int):=by rw [nb]; rfl
 have hcut1:cut x1.fneeds (some (1:Int)) none none=some (Kz7 b'):=by rw [nb]; exact Kxs _ _
 have hcp1:=Kvs (Kz7 b') (by rw [Kz8]; omega)
 have o1:=V2r (out:=[y0]) (nd:=[Kz7 a]) (us:=[Kz7 []]) (w:=1) (t:=⟨8,(g:Int),ty,[k0,k1,k2]⟩) (m:=[p]) rfl m1 r1 (by simp; omega) f1 (by rw [ht1]; exact V1v (.inr (by decide))) (V1t (show (8:Int) ≠ 10 by decide)) nb (by simp <;> omega) (by simp) (by simp) (by simp) (by simp)
 simp only [List.length_cons,List.length_nil,Nat.zero_add,List.drop_succ_cons,List.drop_zero,List.take_succ_cons,List.take_zero,List.nil_append,List.cons_append] at o1
 have m2:V1g ⟨8,(g:Int),ty,[k0,k1,k2]⟩ [y0,y1] 2=some [q]:=V30 (by decide) ad2
 have p2':V1b s ([q] ++ ctx).length k2 (tsz (⟨8,(g:Int),ty,[k0,k1,k2]⟩:K01)):=by
  have e:([q] ++ ctx).length=ctx.length + Kv2 8 2:=by simp [Kv2]
  rw [e]; exact p2
 obtain ⟨x2,y2,r2⟩:=ih k2 ([q] ++ ctx) p2' (fun z hz=>by rcases List.mem_append.1 hz with hz | hz; exact hm2 z hz; exact hc z hz) (by simp; omega)
 have hw2:=V0a ctx [q] (by simp; omega)
 by_cases f2:x2.ffault=0
 rotate_left
 ·have e2:Kfu (s,q :: ctx,⟨8,(g:Int),ty,[k0,k1,k2]⟩,2)=some ⟨[],[],x2.ffault,2 :: x2.fpath⟩:=V2n (i:=2) rfl r2 (by omega) f2
  refine V2l.bad (f:=x2.ffault) (p:=2 :: x2.fpath) ?_ (V1r (by omega) (o0.trans (o1.trans (V2o (m:=[q]) rfl m2 r2 (by omega) (by simp; omega) f2)))) f2 (by have:=r2.pl; simp; omega)
  rw [Kfs.eq_def]
  simp [e0,f0,i0,Kft.eq_def,hcg,hl2,hp0,hp1,hw1,e1,f1,hcut1,hcp1,hw2,e2,f2]
 obtain ⟨g2,q2,d,nd,ld,bd⟩:=r2.gd f2
 obtain ⟨c2,t2,ht2,hn2,hz2⟩:=V37 hs g2
 have L2:=V0y g2
 have e2:Kfu (s,q :: ctx,⟨8,(g:Int),ty,[k0,k1,k2]⟩,2)=some x2:=V2m (i:=2) rfl r2 f2
 have ld':d.length=ctx.length + 1:=by rw [ld]; simp
 obtain ⟨v0,d',rfl⟩:∃ v0 d',d=v0 :: d':=by match d,ld' with | v0 :: d',_=>exact ⟨v0,d',rfl⟩ | [],h=>simp at h
 obtain ⟨hv0,bd'⟩:=Kzo bd
 have ldc:d'.length=ctx.length:=by simp at ld'; omega
 have i2:idx x2.fneeds 0=some (v0:Int):=by rw [nd]; rfl
 have hcut2:cut x2.fneeds (some (1:Int)) none none=some (Kz7 d'):=by rw [nd]; exact Kxs _ _
 have o2:=V2r (out:=[y0,y1]) (nd:=[Kz7 a,Kz7 b']) (us:=[Kz7 [],Kz7 [u0]]) (w:=2) (t:=⟨8,(g:Int),ty,[k0,k1,k2]⟩) (m:=[q]) rfl m2 r2 (by simp; omega) f2 (by rw [ht2]; exact V1v (.inr (by decide))) (V1t (show (8:Int) ≠ 10 by decide)) nd (by simp <;> omega) (by simp) (by simp) (by simp) (by simp)
 simp only [List.length_cons,List.length_nil,Nat.zero_add,List.drop_succ_cons,List.drop_zero,List.take_succ_cons,List.take_zero,List.nil_append,List.cons_append] at o2
 have hl0:=o0.trans (o1.trans (o2.trans (V1j (Nat.le_refl _))))
 have hle0:=sLe hs.tab hu0 hg
 have hle1:=sLe hs.tab hv0 hg
 have hf:=V2i (ty:=ty) (ks:=[k0,k1,k2]) (ctx:=ctx) (z:=Kz7 (List.replicate ctx.length 0)) (y0:=y0) (y1:=y1) (y2:=y2) (us':=Kz7 []) (u:=[u0]) (v:=[v0]) hs hg (fun x hx=>by simp at hx; rw [hx]; exact hu0) (by simp) (fun x hx=>by simp at hx; rw [hx]; exact hv0) (by simp) ba bb' bd' (by omega) (by omega) (by omega) (by rw [r2.ty]; omega) (by rw [r1.ty]; omega)
 simp only [List.all_cons,List.all_nil,Bool.and_true] at hf
 rw [r1.ty,r2.ty] at hf
 have hsm:=Kyq x1.fty x2.fty (by omega)
 have hj:=Kzz hs b' d' bb' bd' (by omega) (by omega)
 have lj:(Kzm s n b' d').length=ctx.length:=by unfold Kzm; rw [List.length_zipWith]; omega
 by_cases hqq:x1.fty=x2.fty
 rotate_left
 ·rw [if_neg hqq] at hf
  rw [show (x1.fty == x2.fty)=false from beq_eq_false_iff_ne.2 hqq] at hsm
  refine V2l.bad (f:=3) (p:=[]) ?_ (V1s (by omega) hl0 hf) (by decide) (by simp; omega)
  rw [Kfs.eq_def]
  simp [e0,f0,i0,Kft.eq_def,hcg,hl2,hp0,hp1,hw1,e1,f1,hcut1,hcp1,hw2,e2,f2,hsm,Kel]
 rw [if_pos hqq] at hf
 rw [show (x1.fty == x2.fty)=true from beq_iff_eq.2 hqq] at hsm
 by_cases hal:le s n u0 g=true∧le s n v0 g=true
 rotate_left
 ·rw [if_neg hal] at hf
  refine V2l.bad (f:=9) (p:=[]) ?_ (V1s (by omega) hl0 hf) (by decide) (by simp; omega)
  rw [Kfs.eq_def]
  simp [e0,f0,i0,Kft.eq_def,hcg,hl2,hp0,hp1,hw1,e1,f1,hcut1,hcp1,hw2,e2,f2,hsm,i1,i2,hle0,hle1,hcut2,hj,Kel]
  cases q1:le s n v0 g with
  | false=>simp
  | true =>
   cases q2:le s n u0 g with
   | false=>simp
   | true=>exact absurd ⟨q2,q1⟩ hal
 rw [if_pos hal] at hf
 have im:=V33 (q:=x1.fty) (ns:=Kzk s n (Kzl s n g a) (Kzm s n b' d')) (kids:=[y0,y1,y2]) (by omega) (V1s (by omega) hl0 hf)
 have lsc:(Kzl s n g a).length=ctx.length:=by unfold Kzl; rw [List.length_map]; exact la
 have hsc:=Kzr hs hg ba
 have hz0:=Kzu hs hsc
 rw [lsc] at hz0
 have hsum:=Kzw hs g hg (List.replicate ctx.length 0) a (fun x hx=>by rw [List.eq_of_mem_replicate hx]; exact Kzf hs) ba (by simp; omega) (by simp [la])
 rw [hz0] at hsum
 have hs2:=Kzx hs (Kzl s n g a) (Kzm s n b' d') hsc (Kzs hs bb' bd') (by omega) (by omega)
 refine V2l.good (q:=x1.fty) (ns:=Kzk s n (Kzl s n g a) (Kzm s n b' d')) (kids:=[y0,y1,y2]) ?_ im (by omega) g1 (by unfold Kzk; rw [List.length_zipWith]; omega) (Kzq hs hsc (Kzs hs bb' bd')) rfl (kd3 (V2k.mk' (V2s (by decide) rfl) r0 f0 (fun _ h=>by cases h) rfl) (V2k.mk' ad1 r1 f1 hm1 rfl) (V2k.mk' ad2 r2 f2 hm2 rfl))
 rw [Kfs.eq_def]
 simp [e0,f0,i0,Kft.eq_def,hcg,hl2,hp0,hp1,hw1,e1,f1,hcut1,hcp1,hw2,e2,f2,hsm,i1,i2,hle0,hle1,hal.1,hal.2,hcut2,hj,na,V09 ctx.length (by omega),hsum,hs2]
theorem V3t:∀ (m:Nat) (t:K01) (ctx:List (List Int)),tsz t ≤ m→tOk (gN s.fSize true) (yN s.fSize true) ctx.length t=true→(∀ q ∈ ctx,TyS s q)→ctx.length + 2 * tsz t ≤ 1000000→∃ x y,V2l s n ctx t x y
 | 0,t,ctx,hm,_,_,_=>by obtain ⟨op,N,ty,ks⟩:=t; rw [tsz] at hm; omega
 | m + 1,t,ctx,hm,h,hc,hb=>by
  have ih:V32 s n (tsz t):=fun k c hk hc hb=>V3t m k c (by have:=hk.sz; omega) hk.ok hc hb
  obtain ⟨op,N,ty,ks⟩:=t
  have hop:=(Kvr (Kvp h).1).1
  simp only at hop
  rcases Kuw hop with rfl | rfl | rfl | rfl | rfl | rfl | rfl | rfl | rfl | rfl | rfl | rfl | rfl
  ·exact V35 hs rfl h hc hb
  ·exact V36 hs rfl h hb
  ·exact V3d hs ih h hc hb
  ·exact V3e hs ih h hc hb
  ·exact V3c hs ih h hc hb
  ·exact V3q hs ih h hc hb
  ·exact V38 hs ih h hc hb
  ·exact V39 hs ih h hc hb
  ·exact V3s hs ih h hc hb
  ·exact V3b hs ih h hc hb
  ·exact V3p hs ih h hc hb
  ·exact V3a hs ih h hc hb
  ·exact V3r hs ih h hc hb
end
theorem V3u {l:List (List Int)} {v:List Int} (h:v ∈ l):v.length ≤ lms l:=by
 have:=Kxn h
 unfold lms; omega
theorem V3v {s:K00} {ctx:List (List Int)} {t:K01} (h:V0v s ctx t=true):Kzc s s.fSize.toNat∧ctx.length ≤ 8∧(∀ q ∈ ctx,TyS s q)∧tsz t ≤ 400∧tOk (gN s.fSize true) (yN s.fSize true) ctx.length t=true:=by
 unfold V0v V0l Kyw at h
 simp only [Bool.and_eq_true,decide_eq_true_eq,List.all_eq_true] at h
 exact ⟨Kzd h.1.1,h.1.2.1,fun q hq=>h.1.2.2 q hq,h.2.1.2,h.2.2⟩
theorem V3w {s:K00} {ctx:List (List Int)} {t:K01} (h:V0v s ctx t=true):∃ x y,V2l s s.fSize.toNat ctx t x y:=by
 obtain ⟨h1,h2,h3,h4,h5⟩:=V3v h
 exact V3t h1 (tsz t) t ctx (Nat.le_refl _) h5 h3 (by omega)
theorem V3x {s:K00} {ctx:List (List Int)} {t:K01} (hc:lms ctx ≤ 1048576) (ht:tms t ≤ 1099511627776) :
  (V0v s ctx t=false∧Ke9 (s,ctx,t)=some false∧Ko0 (s,ctx,t)=some none) ∨
  (V0v s ctx t=true∧Ke9 (s,ctx,t)=some true∧∃ x y,V2l s s.fSize.toNat ctx t x y∧Ko0 (s,ctx,t)=some (some y)):=by
 have hl:∀ ty ∈ ctx,ty.length ≤ 1099511627776:=fun ty h=>by have:=V3u h; omega
 have hc':ctx.length ≤ 1048576:=by unfold lms at hc; omega
 have h1:=V0w s ctx t hc' hl ht
 have h2:=V0x s ctx t hc' hl ht
 cases h:V0v s ctx t with
 | false=>rw [h] at h1 h2; exact .inl ⟨rfl,h1,by simpa using h2⟩
 | true =>
  rw [h] at h1 h2
  obtain ⟨x,y,r⟩:=V3w h
  refine .inr ⟨rfl,h1,x,y,r,?_⟩
  rw [if_pos rfl,r.im,bs] at h2
  exact h2
structure V3y (s:K00) (ctx:List (List Int)) (t:K01) (y:K03):Prop where
 ok:tOk (gN s.fSize true) (yN s.fSize true) ctx.length t=true
 cx:∀ q ∈ ctx,TyS s q
 bd:ctx.length + 2 * tsz t ≤ 1000000
 im:Knt (⟨s⟩,ctx,t)=some y
 fa:y.ffault=0
section
variable {s:K00} {n:Nat} (hs:Kzc s n) {ctx:List (List Int)} {t:K01} {y:K03}
include hs
theorem V3y.tell (g:V3y s ctx t y):∃ x,V2l s n ctx t x y∧x.ffault=0∧x.fty=y.fty∧TyS s y.fty:=by
 obtain ⟨x,y',r⟩:=V3t hs (tsz t) t ctx (Nat.le_refl _) g.ok g.cx g.bd
 have e:=r.im
 rw [g.im] at e
 cases e
 have hf:x.ffault=0:=by rw [← r.fa]; exact g.fa
 exact ⟨x,r,hf,r.ty.symm,by rw [r.ty]; exact (r.gd hf).1⟩
theorem V3y.many (g:V3y s ctx t y):y.fkids.length=t.fKids.length:=by
 obtain ⟨x,r,hf,_⟩:=g.tell hs
 exact (r.kd hf).1
theorem V3y.kid (g:V3y s ctx t y) {i:Nat} {k:K01} (hk:t.fKids[i]?=some k):∃ yk,y.fkids[i]?=some yk∧V3y s (V2j t i y.fkids ++ ctx) k yk∧(V2j t i y.fkids).length=Kv2 t.fOp i:=by
 obtain ⟨x,r,hf,_⟩:=g.tell hs
 obtain ⟨yk,h1,h2⟩:=(r.kd hf).2 i k hk
 obtain ⟨hi,hg⟩:=List.getElem?_eq_some_iff.1 hk
 have hm:k ∈ t.fKids:=hg ▸ List.getElem_mem hi
 have h3:=Kxt t.fKids t.fOp ctx.length 0 i hi (Kvp g.ok).2
 rw [hg,Nat.zero_add] at h3
 have h4:=Kx6 hm
 have h5:=Kv3 t.fOp (i:Int)
 have h6:=g.bd
 have h7:=h2.ln
 refine ⟨yk,h1,⟨?_,?_,?_,h2.im,h2.fa⟩,h7⟩
 ·rw [List.length_append,h7,Nat.add_comm]; exact h3
 ·intro q hq
  rcases List.mem_append.1 hq with hq | hq
  ·exact h2.ty q hq
  ·exact g.cx q hq
 ·rw [List.length_append,h7]; omega
theorem V3y.first (g:V3y s ctx t y) (h0:0 < t.fKids.length) (ha:Kv2 t.fOp ((0:Nat):Int)=0):∃ k0 y0 x0 l,t.fKids[0]?=some k0∧y.fkids=y0 :: l∧(V2l s n ctx k0 x0 y0∧x0.ffault=0)∧Kfs (s,ctx,k0)=some x0∧x0.fty=y0.fty∧TyS s y0.fty:=by
 have hk:t.fKids[0]?=some t.fKids[0]:=List.getElem?_eq_getElem h0
 obtain ⟨y0,h1,h2,h3⟩:=g.kid hs hk
 rw [ha] at h3
 rw [List.eq_nil_of_length_eq_zero h3,List.nil_append] at h2
 obtain ⟨x0,r,hf,h4,h5⟩:=h2.tell hs
 cases e:y.fkids with
 | nil=>rw [e] at h1; cases h1
 | cons z l =>
  rw [e] at h1
  cases h1
  exact ⟨_,_,x0,l,hk,rfl,⟨r,hf⟩,r.sp,h4,h5⟩
theorem V3y.inner (g:V3y s ctx t y) {i:Nat} (hi:i < t.fKids.length) :
  (Kv2 t.fOp (i:Int)=0∧V2j t i y.fkids=[]) ∨
  (t.fOp=9∧Kv2 t.fOp (i:Int)=1∧V2j t i y.fkids=[t.fType]) ∨
  (t.fOp=5∧Kv2 t.fOp (i:Int)=2∧∃ k0 x0 a b,t.fKids[0]?=some k0∧Kfs (s,ctx,k0)=some x0∧Kf5 (x0.fty,0)=some a∧Kf5 (x0.fty,1)=some b∧V2j t i y.fkids=[b,a]) ∨
  (t.fOp ≠ 9∧t.fOp ≠ 5∧Kv2 t.fOp (i:Int)=1∧∃ k0 x0 a,t.fKids[0]?=some k0∧Kfs (s,ctx,k0)=some x0∧Kf5 (x0.fty,wr ((i:Int) - 1))=some a∧V2j t i y.fkids=[a]):=by
 obtain ⟨yk,_,_,hl⟩:=g.kid hs (List.getElem?_eq_getElem hi)
 have hn:=Kvr (Kvp g.ok).1
 by_cases h0:Kv2 t.fOp (i:Int)=0
 ·rw [h0] at hl
  exact .inl ⟨h0,List.eq_nil_of_length_eq_zero hl⟩
 by_cases h9:t.fOp=9
 ·obtain ⟨op,N,ty,ks⟩:=t
  simp only at h9
  subst h9
  refine .inr (.inl ⟨rfl,rfl,?_⟩)
  unfold V2j
  rw [V2t]; rfl
 obtain ⟨op,N,ty,ks⟩:=t
 simp only at h9 h0 hn hi hl ⊢
 have hop:(op=5∧i=1)∨(op=8∧i=1)∨(op=8∧i=2)∨(op=12∧i=1):=by
  have h:=hn.2
  unfold Kv2 at h0
  split at h0
  ·rename_i q; simp at q; omega
  ·split at h0
   ·rename_i q q2
    simp [h9] at q2
    rcases q2 with q2 | q2
    ·have e:Kus 8=3:=by decide
     rw [q2.1,e] at h
     omega
    ·omega
   ·omega
 have ha0:Kv2 op ((0:Nat):Int)=0:=by
  rcases hop with ⟨rfl,_⟩ | ⟨rfl,_⟩ | ⟨rfl,_⟩ | ⟨rfl,_⟩ <;> decide
 obtain ⟨k0,y0,x0,l,e1,e2,_,e4,e5,e6⟩:=g.first hs (t:=⟨op,N,ty,ks⟩) (by simp only; omega) ha0
 rw [e2] at hl ⊢
 unfold V2j Kkl at hl ⊢
 simp only at hl ⊢
 rw [if_neg (by simpa using h9),Kv5,bs,if_neg (by simpa using h0)] at hl ⊢
 rcases V17 hs e6 with q | ⟨a,b,q,p⟩ | ⟨a,b,q,p⟩ | ⟨c,a,b,_,_,q,p⟩ | ⟨c,a,_,_,q,p⟩
 ·rw [q,Kxz,bs] at hl
  rcases hop with ⟨rfl,rfl⟩ | ⟨rfl,rfl⟩ | ⟨rfl,rfl⟩ | ⟨rfl,rfl⟩ <;> cases hl
 all_goals
  rw [q,p.pp,bs] at hl
  rw [q,p.pp,bs]
  rcases hop with ⟨rfl,rfl⟩ | ⟨rfl,rfl⟩ | ⟨rfl,rfl⟩ | ⟨rfl,rfl⟩
  all_goals first
   | (cases hl; done)
   | exact .inr (.inr (.inl ⟨rfl,rfl,k0,x0,a,b,e1,e4,by rw [e5,q]; exact p.p0,by rw [e5,q]; exact p.p1,rfl⟩))
   | exact .inr (.inr (.inr ⟨by decide,by decide,rfl,k0,x0,a,e1,e4,by rw [e5,q]; exact p.p0,rfl⟩))
   | exact .inr (.inr (.inr ⟨by decide,by decide,rfl,k0,x0,b,e1,e4,by rw [e5,q]; exact p.p1,rfl⟩))
end
theorem V3z {s:K00} {ctx:List (List Int)} {t:K01} {x:K02} {y:K03} (h:V0v s ctx t=true) (r:V2l s s.fSize.toNat ctx t x y) (hf:x.ffault=0):V3y s ctx t y:=by
 obtain ⟨h1,h2,h3,h4,h5⟩:=V3v h
 exact ⟨h5,h3,by omega,r.im,by rw [r.fa]; exact hf⟩
theorem V40 {α:Type} {l:List α} {i:Nat} {x:α} (h:l[i]?=some x):idx l (i:Int)=some x:=by
 unfold idx
 rw [if_pos (by omega)]
 simpa using h
theorem V41:∀ l:List K01,l.length ≤ Kui l
 | []=>by simp [Kui]
 | t :: l=>by have:=V41 l; rw [Kui,List.length_cons,Kul]; omega
mutual
theorem V42 (s:K00):∀ (t:K01) (n nodes:Nat),tms t ≤ 1099511627776→n + 2 * tms t ≤ 35184372088832→nodes ≤ 400→Kpb (t,(n:Int),s,(nodes:Int))=some (Kve (tOk (Kwp s) wtB n t) nodes (tsz t))
 | ⟨op,N,ty,ks⟩,n,nodes,ht,hn,hd=>by
  rw [tms] at ht hn
  rw [Kpb.eq_def,tOk,tsz]
  simp only
  rw [Kv1,bs]
  unfold Kv0
  cases hop:inB op 0 12
  ·simp [Kv8,hop,Kve]
  ·simp only [if_true]
   rw [Ks8 (by omega)]
   by_cases h4:nodes + 1 ≤ 400
   ·rw [decide_eq_false (by omega:¬ ((nodes + 1:Nat):Int) > 400)]
    by_cases hk:(ks.length:Int)=Kus op
    ·rw [show ((ks.length:Int) != Kus op)=false by rw [hk]; exact Ksg]
     simp only [Bool.false_eq_true,if_false,bs]
     refine (Kuh (x:=Kv6 (Kwp s) (n:Int) ⟨op,N,ty,ks⟩) ?_).trans ?_
     ·unfold Kv6
      simp only [iIn,Ks6 (x:=(n:Int) - 1) (by omega) (by omega),Kwq,bs]
      cases op == 0 <;> cases op == 1 <;> cases Kut op <;> rfl
     refine (Kuh (x:=Kv6 (Kwp s) (n:Int) ⟨op,N,ty,ks⟩ && Kv7 wtB ⟨op,N,ty,ks⟩) ?_).trans ?_
     ·unfold Kv7
      simp only [Kub ty (by omega),bs]
      cases Kuu op <;> cases Kv6 (Kwp s) (n:Int) ⟨op,N,ty,ks⟩ <;> rfl
     have e:Kv8 (Kwp s) wtB (n:Int) ⟨op,N,ty,ks⟩=(Kv6 (Kwp s) (n:Int) ⟨op,N,ty,ks⟩ && Kv7 wtB ⟨op,N,ty,ks⟩):=by
      unfold Kv8
      simp only
      rw [hop,hk]; simp
     rw [e]
     cases Kv6 (Kwp s) (n:Int) ⟨op,N,ty,ks⟩ && Kv7 wtB ⟨op,N,ty,ks⟩
     ·simp [Kve]
     ·have h:=V43 s ks ⟨op,N,ty,ks⟩ n (nodes + 1) 0 rfl (by simp only; omega) (by omega) (by omega) h4
      rw [if_pos rfl,show (0:Int)=((0:Nat):Int) from rfl,h]
      simp only [Bool.true_and]
      unfold Kve
      rw [show nodes + (1 + Kui ks)=nodes + 1 + Kui ks by omega]
      cases Kv9 (Kwp s) wtB op n 0 ks && decide (nodes + 1 + Kui ks ≤ 400) <;> rfl
    ·rw [show ((ks.length:Int) != Kus op)=true by simpa using hk]
     have e:Kv8 (Kwp s) wtB (n:Int) ⟨op,N,ty,ks⟩=false:=by
      unfold Kv8
      simp only
      rw [show ((ks.length:Int) == Kus op)=false by simpa using hk]; simp
     simp [e,Kve]
   ·rw [decide_eq_true (by omega:((nodes + 1:Nat):Int) > 400)]
    have:¬ nodes + (1 + Kui ks) ≤ 400:=by omega
    simp [Kve,this]
theorem V43 (s:K00):∀ (ks:List K01) (t:K01) (n nodes i:Nat),t.fKids.drop i=ks→t.fKids.length ≤ 1099511627776→Kuj ks ≤ 1099511627776→n + 2 * (ks.length + Kuj ks) ≤ 35184372088832→nodes ≤ 400 →
  Kpc (t,(n:Int),s,(nodes:Int),(i:Int))=some (if Kv9 (Kwp s) wtB t.fOp n i ks && decide (nodes + Kui ks ≤ 400) then .inl ((nodes + Kui ks:Nat):Int) else .inr 401)
 | [],t,n,nodes,i,hd,hk,ht,hn,h4=>by
  rw [Kpc.eq_def,Kv9,Kui]
  simp only
  rw [Ksa (Kto hd)]
  simp [h4]
 | k :: ks,t,n,nodes,i,hd,hk,ht,hn,h4=>by
  obtain ⟨hi,hx,hd'⟩:=Ktn hd
  rw [Kuj] at ht hn
  rw [List.length_cons] at hn
  have ha:=Kv3 t.fOp (i:Int)
  rw [Kpc.eq_def,Kv9,Kui]
  simp only
  rw [Ks9 hi,if_pos rfl,hx,bs,Kv5,bs,Ks6 (by omega) (by omega),show (n:Int) + ((Kv2 t.fOp (i:Int):Nat):Int)=((n + Kv2 t.fOp (i:Int):Nat):Int) by omega]
  rw [V42 s k (n + Kv2 t.fOp (i:Int)) nodes (by omega) (by omega) h4,bs,Ks8 (by omega)]
  unfold Kve
  cases tOk (Kwp s) wtB (n + Kv2 t.fOp (i:Int)) k
  ·rfl
  ·by_cases q:nodes + tsz k ≤ 400
   ·rw [decide_eq_true q,Bool.true_and,if_pos rfl,decide_eq_false (by omega:¬ ((nodes + tsz k:Nat):Int) > 400),if_neg (by decide),V43 s ks t n (nodes + tsz k) (i + 1) hd' hk (by omega) (by omega) q,Nat.add_assoc,Bool.true_and]
   ·rw [decide_eq_false q,decide_eq_false (by omega:¬ nodes + (tsz k + Kui ks) ≤ 400)]
    simp
end
theorem V44 {s:K00} (T:Ty):T.ok→T.code.length ≤ 40→T.code.all (Kud s.fSize true)=true→∀ m:Nat,tOk (gN s.fSize true) wtB m (dfl T)=true:=by
 induction T with
 | num=>intro _ _ _ m; rw [dfl,Kva]; rfl
 | bin c a b iha ihb =>
  intro h hl hc m
  rw [Ty.code,List.length_cons,List.length_append] at hl
  rw [Ty.code,List.all_cons,List.all_append,Bool.and_eq_true,Bool.and_eq_true] at hc
  have ha:=iha h.2.1 (by omega) hc.2.1
  have hb:=ihb h.2.2 (by omega) hc.2.2
  have wa:=Kwg h.2.1 (by omega)
  have wb:=Kwg h.2.2 (by omega)
  rw [dfl]
  rcases Kxv h.1 with ⟨rfl,_⟩ | ⟨rfl,_⟩ | ⟨h0,h1,h2,_⟩
  ·rw [if_pos rfl,Kva]
   simp [Kv9,ha,hb,Kv8,Kv6,Kv7,inB,Kus,Kut,Kuu]
  ·rw [if_neg (by decide),if_pos rfl,Kva]
   simp [Kv9,ha,wb,Kv8,Kv6,Kv7,inB,Kus,Kut,Kuu]
  ·have hg:=hc.1
   rw [if_neg h0.2.1,if_neg h0.2.2,Kva]
   have gg:gN s.fSize true (Kuc c)=true:=by
    have:=h.1
    unfold Kud at hg
    unfold gN
    simp at hg ⊢
    rcases Ktv c with q | q | q | q <;> omega
   simp [Kv9,hb,wa,Kv8,Kv6,Kv7,inB,Kus,Kut,Kuu,gg]
 | un c a ih =>
  intro h hl hc m
  rw [Ty.code,List.length_cons] at hl
  rw [Ty.code,List.all_cons,Bool.and_eq_true] at hc
  have ha:=ih h.2 (by omega) hc.2
  have hg:=hc.1
  rw [dfl,Kva]
  have gg:gN s.fSize true (Kuc c)=true:=by
   have:=h.1
   unfold Kud at hg
   unfold gN
   simp at hg ⊢
   rcases Ktv c with q | q | q | q <;> omega
  simp [Kv9,ha,Kv8,Kv6,Kv7,inB,Kus,Kut,Kuu,gg]
section
variable {s:K00} {n:Nat} (hs:Kzc s n) {ctx:List (List Int)} {t:K01} {y:K03}
include hs
theorem V3y.arrow (g:V3y s ctx t y) (ho:t.fOp=10):∃ k0 y0 x0 l,t.fKids[0]?=some k0∧y.fkids=y0 :: l∧Kfs (s,ctx,k0)=some x0∧x0.fty=y0.fty∧∃ (a:Nat) (r:List Int),a ≤ 15∧y0.fty=(3 + (a:Int)) :: r:=by
 obtain ⟨op,N,ty,ks⟩:=t
 simp only at ho
 subst ho
 obtain ⟨k0,k1,rfl,p0,p1⟩:=nd2 g.ok (Nat.le_refl _) rfl
 obtain ⟨z0,y0,x0,l,e1,e2,⟨r0,f0⟩,e4,e5,e6⟩:=g.first hs (t:=⟨10,N,ty,[k0,k1]⟩) (by simp) rfl
 refine ⟨z0,y0,x0,l,e1,e2,e4,e5,?_⟩
 cases e1
 have g0:=(r0.gd f0).1
 obtain ⟨c0,t0,ht0,_,_⟩:=V37 hs g0
 have C:=V3o hs g0 ht0
 by_cases z:(Ktw c0).1=3
 ·obtain ⟨a,p,q,_,h15,hcg,hq,_⟩:=C.arr z
  exact ⟨a,p ++ q,h15,by rw [← e5,hq,hcg]⟩
 ·exfalso
  have w0:Ktp c0=false:=by cases h:Ktp c0 with | true=>exact absurd (C.arrB.1 h) z | false=>rfl
  obtain ⟨x,r,hf,_⟩:=g.tell hs
  have q0:Kfu (s,ctx,⟨10,N,ty,[k0,k1]⟩,0)=some x0:=V2m (i:=0) rfl r0 f0
  have i0:idx x0.fty 0=some c0:=by rw [ht0]; rfl
  have sp:=r.sp
  rw [Kfs.eq_def] at sp
  simp [q0,f0,i0,Kts,w0,Kel] at sp
  rw [← sp] at hf
  cases hf
theorem V3y.inner7 (g:V3y s ctx t y) {i:Nat} (hi:i < t.fKids.length):Kgz (s,ctx,t,(i:Int))=some (V2j t i y.fkids ++ ctx):=by
 have hc:=g.bd
 unfold Kgz
 simp only
 rw [Kv4,bs]
 rcases g.inner hs hi with ⟨a0,ae⟩ | ⟨o9,a1,ae⟩ | ⟨o5,a2,k0,x0,a,b,q1,q2,q3,q4,ae⟩ | ⟨n9,n5,a1,k0,x0,a,q1,q2,q3,ae⟩
 ·rw [a0,if_pos (by decide),ae]; rfl
 ·rw [a1,if_neg (by decide),if_pos (by rw [o9]; decide),V0a ctx [t.fType] (by simp; omega),bs,ae]
 ·have q1':=V40 q1
  rw [show ((0:Nat):Int)=0 from rfl] at q1'
  rw [a2,if_neg (by decide),if_neg (by rw [o5]; decide),q1',bs,q2,bs,if_pos (by rw [o5]; decide),q4,bs,q3,bs,V0a ctx [b,a] (by simp; omega),bs,ae]
 ·have q1':=V40 q1
  rw [show ((0:Nat):Int)=0 from rfl] at q1'
  rw [a1,if_neg (by decide),if_neg (by simpa using n9),q1',bs,q2,bs,if_neg (by simpa using n5),q3,bs,V0a ctx [a] (by simp; omega),bs,ae]
theorem V45 (g:V3y s ctx t y) {i:Nat} (hi:i < t.fKids.length) {view:List Int} (hv:view.length ≤ 1048576):∃ b:Bool,
  (∀ F:Bool→Option (List K01),(((if (t.fOp == 11)=true then Kgw (view,t.fN) >>= fun r=>some (!r) else some false):Option Bool) >>= fun h=>((if (t.fOp == 10)=true then some ((i:Int) == 1) else some false):Option Bool) >>= fun v=>((if v=true then idx t.fKids 0 >>= fun e=>Kfs (s,ctx,e) >>= fun x=>idx x.fty 0 >>= fun c=>Kcq c >>= fun q=>Kgw (view,q) >>= fun r=>some (!r) else some h):Option Bool) >>= F)=F b) ∧
  (∀ F:Bool→Option (List K01),(((if (t.fOp == 11)=true then Kou (view,t.fN) >>= fun r=>some (!r) else some false):Option Bool) >>= fun h=>((if (t.fOp == 10)=true then some ((i:Int) == 1) else some false):Option Bool) >>= fun v=>((if v=true then idx y.fkids 0 >>= fun e=>idx e.fty 0 >>= fun c=>Kiy c >>= fun (q:Int × Int)=>Kou (view,q.2) >>= fun r=>some (!r) else some h):Option Bool) >>= F)=F b):=by
 by_cases h11:t.fOp=11
 ·refine ⟨!view.contains t.fN,fun F=>?_,fun F=>?_⟩
  ·rw [h11,if_pos (by decide),Kyl view t.fN (by omega),bs,bs,if_neg (by decide),bs,if_neg (by decide),bs]
  ·rw [h11,if_pos (by decide),Kyn view t.fN (by omega),bs,bs,if_neg (by decide),bs,if_neg (by decide),bs]
 by_cases h10:t.fOp=10
 ·by_cases h1:i=1
  ·obtain ⟨k0,y0,x0,l,e1,e2,e3,e4,a,r,ha,hq⟩:=g.arrow hs h10
   have e1':=V40 e1
   rw [show ((0:Nat):Int)=0 from rfl] at e1'
   subst h1
   refine ⟨!view.contains (a:Int),fun F=>?_,fun F=>?_⟩
   ·rw [h10,if_neg (by decide),bs,if_pos (by decide),bs,if_pos (by decide),e1',bs,e3,bs,e4,hq,show idx ((3 + (a:Int)) :: r) 0=some (3 + (a:Int)) from rfl,bs,V3l a ha,bs,Kyl view a (by omega),bs,bs]
   ·rw [h10,if_neg (by decide),bs,if_pos (by decide),bs,if_pos (by decide),e2,show idx (y0 :: l) 0=some y0 from rfl,bs,hq,show idx ((3 + (a:Int)) :: r) 0=some (3 + (a:Int)) from rfl,bs,Ktx,V3f a ha,bs,Kyn view a (by omega),bs,bs]
  ·have:((i:Int) == 1)=false:=beq_eq_false_iff_ne.2 (by omega)
   refine ⟨false,fun F=>?_,fun F=>?_⟩
   all_goals rw [h10,if_neg (by decide),bs,if_pos (by decide),bs,this,if_neg (by decide),bs]
 ·refine ⟨false,fun F=>?_,fun F=>?_⟩
  all_goals rw [if_neg (by simpa using h11),bs,if_neg (by simpa using h10),bs,if_neg (by decide),bs]
structure ErR (s:K00) (view:List Int) (ctx:List (List Int)) (t:K01) (y:K03) (r:K01):Prop where
 sp:Kh6 (s,view,ctx,t)=some r
 im:Kp1 (view,t,y)=some r
 ok:tOk (gN s.fSize true) wtB ctx.length r=true
 mz:tms r ≤ 200 * tsz t
theorem V46 (g:V3y s ctx t y) {view:List Int} (hv:view.length ≤ 1048576) (c0:List Int) (ih:∀ (k:K01) (c:List (List Int)) (yk:K03),tsz k < tsz t→V3y s c k yk→∃ r,ErR s view c k yk r) :
  ∀ (ks:List K01) (i:Nat) (out:List K01),t.fKids.drop i=ks→out.length=i →
  ∃ rs,Kh7 (s,view,ctx,t,c0,out,(i:Int))=some (out ++ rs)∧Kp2 (view,t,y,c0,out,(i:Int))=some (out ++ rs)∧rs.length=ks.length∧Kv9 (gN s.fSize true) wtB t.fOp ctx.length i rs=true∧Kuj rs ≤ 200 * Kui ks:=by
 intro ks
 induction ks with
 | nil =>
  intro i out hd ho
  rw [Kh7.eq_def,Kp2.eq_def]
  simp only
  rw [Ksa (Kto hd)]
  exact ⟨[],by simp,by simp,rfl,by rw [Kv9],by simp [Kuj]⟩
 | cons k ks ihl =>
  intro i out hd ho
  obtain ⟨h1,h2,h3⟩:=Ktn hd
  have hk:t.fKids[i]?=some k:=by
   have:=List.getElem?_drop (xs:=t.fKids) (i:=i) (j:=0)
   rw [hd] at this
   simpa using this.symm
  have hm:k ∈ t.fKids:=List.mem_of_getElem? hk
  obtain ⟨yk,e1,gk,el⟩:=g.kid hs hk
  have e1':=V40 e1
  obtain ⟨xk,rk,fk,tk,yt⟩:=gk.tell hs
  have hc:=g.bd
  have hb:t.fKids.length ≤ 1000000:=by have:=V41 t.fKids; rw [Kul] at hc; omega
  obtain ⟨hid,hS,hI⟩:=V45 hs g h1 hv
  have kr:∃ r,(∀ F:List K01→Option (List K01),(((if hid=true then idx t.fKids (i:Int) >>= fun e=>Kfs (s,V2j t i y.fkids ++ ctx,e) >>= fun x=>Kh2 x.fty >>= fun r=>Qd6 (out.length + [r].length) 64 >>= fun _=>some (out ++ [r]) else idx t.fKids (i:Int) >>= fun e=>Kh6 (s,view,V2j t i y.fkids ++ ctx,e) >>= fun r=>Qd6 (out.length + [r].length) 64 >>= fun _=>some (out ++ [r])):Option (List K01)) >>= F)=F (out ++ [r])) ∧
    (∀ F:List K01→Option (List K01),(((if hid=true then idx y.fkids (i:Int) >>= fun e=>Kox e.fty >>= fun r=>Qd6 (out.length + [r].length) 64 >>= fun _=>some (out ++ [r]) else idx y.fkids (i:Int) >>= fun e=>Kp1 (view,k,e) >>= fun r=>Qd6 (out.length + [r].length) 64 >>= fun _=>some (out ++ [r])):Option (List K01)) >>= F)=F (out ++ [r])) ∧
    tOk (gN s.fSize true) wtB (ctx.length + Kv2 t.fOp (i:Int)) r=true∧tms r ≤ 200 * tsz k:=by
   cases hid with
   | true =>
    obtain ⟨T,h4,h5,h6,h7⟩:=V0z yt
    refine ⟨dfl T,fun F=>?_,fun F=>?_,V44 T h4 h6 h7 _,?_⟩
    ·rw [if_pos rfl,h2,bs,rk.sp,bs,tk,h5,Ky1 T h4 (by omega),bs,Kvq (by simp; omega),bs,bs]
    ·rw [if_pos rfl,e1',bs,h5,Ky2 T h4 (by omega),bs,Kvq (by simp; omega),bs,bs]
    ·have:=Ky0 T
     have:=Kul k
     omega
   | false =>
    obtain ⟨r,q⟩:=ih k _ yk (by have:=Kx6 hm; omega) gk
    refine ⟨r,fun F=>?_,fun F=>?_,?_,q.mz⟩
    ·rw [if_neg (by decide),h2,bs,q.sp,bs,Kvq (by simp; omega),bs,bs]
    ·rw [if_neg (by decide),e1',bs,q.im,bs,Kvq (by simp; omega),bs,bs]
    ·have:=q.ok
     rw [List.length_append,el,Nat.add_comm] at this
     exact this
  obtain ⟨r,kS,kI,ko,km⟩:=kr
  obtain ⟨rs,r1,r2,r3,r4,r5⟩:=ihl (i + 1) (out ++ [r]) h3 (by simp [ho])
  refine ⟨r :: rs,?_,?_,by simp [r3],by rw [Kv9,ko,r4]; rfl,by rw [Kuj,Kui]; omega⟩
  ·rw [Kh7.eq_def]
   simp only
   rw [Ks9 h1,if_pos rfl]
   refine (hS _).trans ?_
   rw [g.inner7 hs h1,bs]
   refine (kS _).trans ?_
   rw [Ks8 (by omega),r1,List.append_assoc]
   rfl
  ·rw [Kp2.eq_def]
   simp only
   rw [Ks9 h1,if_pos rfl,h2,bs]
   refine (hI _).trans ?_
   refine (kI _).trans ?_
   rw [Ks8 (by omega),r2,List.append_assoc]
   rfl
theorem V47 {view:List Int} (hv:view.length ≤ 1048576):∀ (m:Nat) (t:K01) (ctx:List (List Int)) (y:K03),tsz t ≤ m→V3y s ctx t y→∃ r,ErR s view ctx t y r
 | 0,t,ctx,y,hm,_=>by rw [Kul] at hm; omega
 | m + 1,t,ctx,y,hm,g=>by
  have hn:=Kvp g.ok
  have hy:=hn.1
  unfold Kv8 at hy
  rw [Bool.and_eq_true,Bool.and_eq_true,Bool.and_eq_true] at hy
  have hty:t.fType.length ≤ 40∧Kv7 wtB t=true:=by
   have q:=hy.2
   unfold Kv7 at q ⊢
   split at q
   ·rename_i h
    rw [if_pos h]
    have:=V0y (s:=s) q
    unfold yN at q
    rw [Bool.and_eq_true] at q
    exact ⟨this,q.1⟩
   ·rename_i h
    rw [if_neg h]
    exact ⟨by have:=beq_iff_eq.1 q; omega,q⟩
  obtain ⟨rs,r1,r2,r3,r4,r5⟩:=V46 hs g hv t.fType (fun k c yk hk gk=>V47 hv m k c yk (by omega) gk) t.fKids 0 [] rfl rfl
  have hm3:=(Kvr hn.1).2
  have hm4:Kus t.fOp ≤ 3:=by
   have hop:=(Kvr hn.1).1
   rcases Kuw hop with e | e | e | e | e | e | e | e | e | e | e | e | e <;> rw [e] <;> decide
  refine ⟨⟨t.fOp,t.fN,t.fType,rs⟩,?_,?_,?_,?_⟩
  ·rw [Kh6.eq_def]
   simp only
   rw [Kvs t.fType (by omega),bs,show (0:Int)=((0:Nat):Int) from rfl,r1,bs]
   rfl
  ·rw [Kp1.eq_def]
   simp only
   rw [Kvt t.fType (by omega),bs,show (0:Int)=((0:Nat):Int) from rfl,r2,bs]
   rfl
  ·rw [Kva]
   simp only
   rw [r4,Bool.and_true]
   have a1:=hy.1.1.1
   have a2:=hy.1.1.2
   have a3:=hy.1.2
   unfold Kv8
   unfold Kv6 at a3 ⊢
   have a4:=hty.2
   unfold Kv7 at a4 ⊢
   simp only at a1 a2 a3 a4 ⊢
   rw [a1,r3,a2,a3,a4]; rfl
  ·rw [tms,Kul]
   omega
end
theorem V48 (x0:K00) (x1:List Int) (x2:List (List Int)) (x3:K01) (b0:sms x0 ≤ 1048576) (b1:x1.length ≤ 1048576) (b2:lms x2 ≤ 1048576) (b3:tms x3 ≤ 1048576) (h3:tln x3) :
  ∃ w0 w1,Khd (x0,x1,x2,x3)=some (w0,w1)∧Kpi (x0,x1,x2,x3)=some (w0,w1)∧tms w0 ≤ 1099511627776:=by
 have nothing:tms (⟨0,0,[],[]⟩:K01) ≤ 1099511627776:=by simp [tms,Kuj]
 rcases V3x (s:=x0) b2 (by omega:tms x3 ≤ 1099511627776) with ⟨h0,q1,q2⟩ | ⟨h0,q1,x,y,r,q2⟩
 ·unfold Khd Kpi Kg5
  simp only
  rw [q1,q2,bs,bs,if_neg (by decide),bs]
  exact ⟨_,_,rfl,rfl,nothing⟩
 ·by_cases hf:x.ffault=0
  rotate_left
  ·unfold Khd Kpi Kg5
   simp only
   rw [q1,q2,bs,bs,if_pos rfl,r.sp,bs]
   refine ⟨⟨0,0,[],[]⟩,false,?_,?_,nothing⟩
   ·rw [if_pos (bne_iff_ne.2 hf),bs]; rfl
   ·dsimp only
    rw [if_pos (by rw [r.fa]; exact bne_iff_ne.2 hf)]
    rfl
  obtain ⟨hs,h8,_,h4,_⟩:=V3v h0
  have a1:Khd (x0,x1,x2,x3)=if vwB x0 x1=true then (Kh6 (x0,x1,x2,x3) >>= fun u=>Kd9 (u,400) >>= fun r=>if decide (r < 0)=true then some (⟨0,0,[],[]⟩,false) else some (u,true)) else some (⟨0,0,[],[]⟩,false):=by
   unfold Khd Kg5
   simp only
   rw [q1,bs,if_pos rfl,r.sp,bs,if_neg (by simp [hf]),bs]
   dsimp only
   rw [if_pos rfl,sVw x0 x1 (by omega),bs,bs]
   cases vwB x0 x1 <;> rfl
  have a2:Kpi (x0,x1,x2,x3)=if vwB x0 x1=true then (Kp1 (x1,x3,y) >>= fun u=>Kpb (u,(x2.length:Int),x0,0) >>= fun r=>if decide (r > 400)=true then some (⟨0,0,[],[]⟩,false) else some (u,true)) else some (⟨0,0,[],[]⟩,false):=by
   unfold Kpi
   simp only
   rw [q2,bs]
   dsimp only
   rw [if_neg (by rw [r.fa]; simp [hf]),iVw x0 x1 (by omega),bs,bs]
   cases vwB x0 x1 <;> rfl
  rw [a1,a2]
  cases vwB x0 x1 with
  | false=>exact ⟨_,_,rfl,rfl,nothing⟩
  | true =>
   obtain ⟨u,e⟩:=V47 hs b1 (tsz x3) x3 x2 y (Nat.le_refl _) (V3z h0 r hf)
   have hm:tms u ≤ 1099511627776:=by have:=e.mz; omega
   have l1:=Kuq u 400 hm (by omega)
   have l2:=V42 x0 u x2.length 0 hm (by have:=e.mz; omega) (by omega)
   rw [V0t hs.tab,e.ok] at l2
   rw [show ((400:Nat):Int)=400 from rfl] at l1
   rw [show ((0:Nat):Int)=0 from rfl] at l2
   rw [if_pos rfl,if_pos rfl,e.sp,e.im,bs,bs,l1,l2,bs,bs]
   unfold Kum Kve
   by_cases hz:tsz u ≤ 400
   ·refine ⟨u,true,?_,?_,hm⟩
    ·rw [if_pos hz,decide_eq_false (by omega),if_neg (by decide)]
    ·rw [Nat.zero_add,decide_eq_true hz,Bool.and_true,if_pos rfl,decide_eq_false (by omega),if_neg (by decide)]
   ·refine ⟨_,false,?_,?_,nothing⟩
    ·rw [if_neg hz,decide_eq_true (by omega),if_pos rfl]
    ·rw [Nat.zero_add,decide_eq_false hz,Bool.and_false,if_neg (by decide:¬ false=true),decide_eq_true (by omega),if_pos rfl]
theorem V49 (x0:K00) (x1:List Int) (x2:List (List Int)) (x3:K01) (hx0:sln x0) (hx1:x1.length ≤ 9223372036854775807) (hx2:lln x2) (hx3:tln x3):Ks3 (x0,x1,x2,x3)=some true:=by
 unfold Ks3
 simp only
 by_cases gx1:x1.length ≤ 1048576
 ·rw [decide_eq_false (by omega),if_neg (by decide)]
  rw [Kx2 x0 (1048576) hx0 (by omega) (by omega),bs]
  rcases Kvf (1048576) (sms x0) with ⟨e0,l0⟩ | ⟨e0,l0⟩
  ·rw [e0]; rfl
  ·rw [e0,decide_eq_false (by omega),if_neg (by decide)]
   rw [Kz4 x2 (1048576 - (sms x0:Int)) hx2 (by omega) (by omega),bs]
   rcases Kvf (1048576 - (sms x0:Int)) (lms x2) with ⟨e1,l1⟩ | ⟨e1,l1⟩
   ·rw [e1]; rfl
   ·rw [e1,decide_eq_false (by omega),if_neg (by decide)]
    rw [Kvi x3 (1048576 - (sms x0:Int) - (lms x2:Int)) hx3 (by omega) (by omega),bs]
    rcases Kvf (1048576 - (sms x0:Int) - (lms x2:Int)) (tms x3) with ⟨e2,l2⟩ | ⟨e2,l2⟩
    ·rw [e2]; rfl
    ·rw [e2,decide_eq_false (by omega),if_neg (by decide)]
     have bx0:sms x0 ≤ 1048576:=by omega
     have bx2:lms x2 ≤ 1048576:=by omega
     have bx3:tms x3 ≤ 1048576:=by omega
     obtain ⟨w0,w1,s1,s2,c0⟩:=V48 x0 x1 x2 x3 bx0 gx1 bx2 bx3 hx3
     obtain ⟨Mx0,mx0⟩:=Ky4 x0 (1) (by omega) (by omega)
     have mx1:=Kx8 x1 (1 + sms x0) (by omega) (by omega)
     have qx2:=Kz2 (l:=x2) (by omega)
     have zx2:=qx2.2
     obtain ⟨Mx2,mx2⟩:=Kxr x2 (1 + sms x0 + x1.length) qx2 (by omega)
     obtain ⟨Mx3,mx3⟩:=Kxl x3 (1 + sms x0 + x1.length + lct x2) (by omega) (by omega)
     have zx3:=Kxc x3
     obtain ⟨N0,n0,n0'⟩:=Kxi w0 (1) (by omega) (by omega)
     have y0:=Kxc w0
     rw [show ((1:Nat):Int)=1 from rfl] at mx0 n0 n0'
     simp only [s1,s2,bs,Kx3 (s:=x0) (by omega),Kx4 (s:=x0) (by omega),Ksd x1 (by omega),Ksi x1 (by omega),Kz6 x2 (by omega),Kxp x2 (Kz2 (by omega)),Kvk x3 (by omega),Kvm x3 (by omega),Kvm w0 (by omega),mx0,mx1,mx2,mx3,n0,n0' w0.fOp w0.fN,Kxm,if_true,if_false,Bool.false_eq_true,Ksg,Bool.not_true,Bool.not_false,Kxu,beq_self_eq_true]
     repeat (rw [decide_eq_false (by omega)]; simp only [bs,Bool.false_eq_true,if_false,if_true,Ksg,Kxm,Bool.not_true,n0,n0' w0.fOp w0.fN])
 ·rw [decide_eq_true (by omega),if_pos rfl]
end Go.Am
