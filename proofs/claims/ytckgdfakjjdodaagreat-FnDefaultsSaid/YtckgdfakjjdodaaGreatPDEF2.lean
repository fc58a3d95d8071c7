/- Plain laws of the printed functions. -/
import Derived.Test.YtckgdfakjjdodaaGreatPDEF1
set_option linter.unusedSimpArgs false
set_option linter.unusedVariables false
namespace Go.Am
theorem Kxm (g:Nat) (h:g ≤ 15):Koe (3 + (g:Int))=(3,(g:Int)):=by
 rcases Kog (3 + (g:Int)) with h | h | h | h | h | h | h | h <;> first | omega | (obtain ⟨_,e⟩:=h; rw [e]; congr 1; omega)
theorem Kxn (g:Nat) (h:g ≤ 15):Koe (19 + (g:Int))=(4,(g:Int)):=by
 rcases Kog (19 + (g:Int)) with h | h | h | h | h | h | h | h <;> first | omega | (obtain ⟨_,e⟩:=h; rw [e]; congr 1; omega)
theorem Kxo (g:Nat) (h:g ≤ 15):Ko7 (3 + (g:Int))=true:=by unfold Ko7 inB; simp; omega
theorem Kxp (g:Nat) (h:g ≤ 15):Ko7 (19 + (g:Int))=false:=by unfold Ko7 inB; simp; omega
theorem Kxq (g:Nat) (h:g ≤ 15):Ko8 (3 + (g:Int))=false:=by unfold Ko8 inB; simp; omega
theorem Kxr (g:Nat) (h:g ≤ 15):Ko8 (19 + (g:Int))=true:=by unfold Ko8 inB; simp; omega
theorem Kxs (g:Nat) (h:g ≤ 15):Klg (3 + (g:Int))=some (g:Int):=by
 rw [Kow (by rcases Kod (3 + (g:Int)) with h | h | h | h <;> omega)]
 unfold Kou
 rw [if_neg (by omega),if_neg (by omega)]
 congr 1; omega
theorem Kxt (g:Nat) (h:g ≤ 15):Klg (19 + (g:Int))=some (g:Int):=by
 rw [Kow (by rcases Kod (19 + (g:Int)) with h | h | h | h <;> omega)]
 unfold Kou
 rw [if_neg (by omega),if_pos (by omega)]
 congr 1; omega
section
variable {s:K00} {n:Nat} (hs:Ktj s n) {ctx:List (List Int)} {N:Int} {ty:List Int} {ks:List K02}
include hs
structure Kxu (s:K00) (n:Nat) (q:List Int) (c:Int):Prop where
 arr:(Koe c).1=3→∃ (g:Nat) (a b:List Int),g < n∧g ≤ 15∧c=3 + (g:Int)∧q=c :: (a ++ b)∧Kv8 s (3 + (g:Int)) a b
 pair:(Koe c).1=1→∃ (a b:List Int),c=1∧q=c :: (a ++ b)∧Kv8 s 1 a b
 sum:(Koe c).1=2→∃ (a b:List Int),c=2∧q=c :: (a ++ b)∧Kv8 s 2 a b
 box:(Koe c).1=4→∃ (g:Nat) (a:List Int),g < n∧g ≤ 15∧c=19 + (g:Int)∧q=c :: a∧Kv9 s (19 + (g:Int)) a
 arrB:Ko7 c=true ↔ (Koe c).1=3
 boxB:Ko8 c=true ↔ (Koe c).1=4
 one:c=1 ↔ (Koe c).1=1
 two:c=2 ↔ (Koe c).1=2
theorem Kxv {q:List Int} (hq:TyS s q) {c:Int} {r:List Int} (e:q=c :: r):Kxu s n q c:=by
 rcases Kve hs hq with rfl | ⟨a,b,rfl,P⟩ | ⟨a,b,rfl,P⟩ | ⟨g,a,b,hg,h15,rfl,P⟩ | ⟨g,a,hg,h15,rfl,P⟩
 ·cases e
  refine ⟨fun h=>?_,fun h=>?_,fun h=>?_,fun h=>?_,by decide,by decide,by decide,by decide⟩ <;> exact absurd h (by decide)
 ·cases e
  refine ⟨fun h=>absurd h (by decide),fun _=>⟨a,b,rfl,rfl,P⟩,fun h=>absurd h (by decide),fun h=>absurd h (by decide),by decide,by decide,by decide,by decide⟩
 ·cases e
  refine ⟨fun h=>absurd h (by decide),fun h=>absurd h (by decide),fun _=>⟨a,b,rfl,rfl,P⟩,fun h=>absurd h (by decide),by decide,by decide,by decide,by decide⟩
 ·cases e
  have hsh:=Kxm g h15
  refine ⟨fun _=>⟨g,a,b,hg,h15,rfl,rfl,P⟩,fun h=>?_,fun h=>?_,fun h=>?_,?_,?_,?_,?_⟩
  ·rw [hsh] at h; simp at h
  ·rw [hsh] at h; simp at h
  ·rw [hsh] at h; simp at h
  ·rw [hsh,Kxo g h15]; simp
  ·rw [hsh,Kxq g h15]; simp
  ·rw [hsh]; simp; omega
  ·rw [hsh]; simp; omega
 ·cases e
  have hsh:=Kxn g h15
  refine ⟨fun h=>?_,fun h=>?_,fun h=>?_,fun _=>⟨g,_,hg,h15,rfl,rfl,P⟩,?_,?_,?_,?_⟩
  ·rw [hsh] at h; simp at h
  ·rw [hsh] at h; simp at h
  ·rw [hsh] at h; simp at h
  ·rw [hsh,Kxp g h15]; simp
  ·rw [hsh,Kxr g h15]; simp
  ·rw [hsh]; simp; omega
  ·rw [hsh]; simp; omega
theorem Kxw (ih:Kx9 s n (tsz (⟨10,N,ty,ks⟩:K02))) (h:tOk (gN s.fSize true) (yN s.fSize true) ctx.length ⟨10,N,ty,ks⟩=true) (hc:∀ q ∈ ctx,TyS s q) (hb:ctx.length + 2 * tsz (⟨10,N,ty,ks⟩:K02) ≤ 1000000):∃ x y,Kws s n ctx ⟨10,N,ty,ks⟩ x y:=by
 obtain ⟨k0,k1,rfl,p0,p1⟩:=nd2 h (Nat.le_refl _) rfl
 have hz:=Ksz 10 N ty k0 k1
 obtain ⟨x0,y0,r0⟩:=ih k0 ctx p0 hc (by omega)
 obtain ⟨x1,y1,r1⟩:=ih k1 ctx p1 hc (by omega)
 by_cases f0:x0.ffault=0
 rotate_left
 ·exact Kxb (by decide) (by decide) (by decide) hb r0 f0
 obtain ⟨g0,q0,a,na,la,ba⟩:=r0.gd f0
 obtain ⟨c0,t0,ht0,hn0,hz0⟩:=Kxe hs g0
 have L0:=Kv5 g0
 have e0:Kmw (s,ctx,⟨10,N,ty,[k0,k1]⟩,0)=some x0:=Kwt (i:=0) rfl r0 f0
 have C:=Kxv hs g0 ht0
 have i0:idx x0.fty 0=some c0:=by rw [ht0]; rfl
 by_cases z0:(Koe c0).1=3
 rotate_left
 ·have w0:Ko7 c0=false:=by cases h:Ko7 c0 with | true=>exact absurd (C.arrB.1 h) z0 | false=>rfl
  refine Kws.bad (f:=6) (p:=[]) ?_ (Kvy (by omega) (Kww (m:=[]) rfl (Kx5 (by decide)) r0 (by simp; omega) f0 (by rw [ht0,Kw5,if_neg z0]) (by decide))) (by decide) (by simp; omega)
  rw [Kmu.eq_def]
  simp [e0,f0,i0,Koa,w0,Kmo]
 obtain ⟨g,p,q,hg,h15,hcg,hq,P⟩:=C.arr z0
 have w0:Ko7 c0=true:=C.arrB.2 z0
 have o0:=Kwy (out:=[]) (nd:=[]) (us:=[]) (w:=0) (t:=⟨10,N,ty,[k0,k1]⟩) (m:=[]) rfl (Kx5 (by decide)) r0 (by simp; omega) f0 (by rw [ht0,Kw5,if_pos z0]) (Kw1 (by decide)) na (by simp <;> omega) (by simp) (by simp) (by simp) (by simp)
 have m1:Kvn ⟨10,N,ty,[k0,k1]⟩ [y0] 1=some []:=Kx7 (by decide) (Kwz (by decide) rfl)
 by_cases f1:x1.ffault=0
 rotate_left
 ·have e1:Kmw (s,ctx,⟨10,N,ty,[k0,k1]⟩,1)=some ⟨[],[],x1.ffault,1 :: x1.fpath⟩:=Kwu (i:=1) rfl r1 (by omega) f1
  refine Kws.bad (f:=x1.ffault) (p:=1 :: x1.fpath) ?_ (Kvy (by omega) (o0.trans (Kwv (m:=[]) rfl m1 r1 (by omega) (by simp; omega) f1))) f1 (by have:=r1.pl; simp; omega)
  rw [Kmu.eq_def]
  simp [e0,f0,i0,Koa,w0,e1,f1]
 obtain ⟨g1,q1,b,nb,lb,bb⟩:=r1.gd f1
 obtain ⟨c1,t1,ht1,hn1,hz1⟩:=Kxe hs g1
 have L1:=Kv5 g1
 have e1:Kmw (s,ctx,⟨10,N,ty,[k0,k1]⟩,1)=some x1:=Kwt (i:=1) rfl r1 f1
 have hp0:Kma (x0.fty,0)=some p:=by rw [hq,hcg]; exact P.p0
 have hp1:Kma (x0.fty,1)=some q:=by rw [hq,hcg]; exact P.p1
 have hpp:Keg y0.fty=some [p,q]:=by rw [r0.ty,hq,hcg]; exact P.pp
 have Lp:=Kv5 P.ya
 have Lq:=Kv5 P.yb
 have hsm:=Ksc x1.fty p (by omega)
 have hsi:=Kse x1.fty p (by omega)
 have ha:Kvt ⟨10,N,ty,[k0,k1]⟩ [y0] 1 y1=some (!(x1.fty == p)):=by
  unfold Kvt
  rw [if_pos (show ((10:Int) == 10)=true by decide),if_pos (by decide),Kwa,bs,hpp,bs,Kwa,bs,r1.ty,hsi,bs]
 by_cases hqq:x1.fty=p
 rotate_left
 ·rw [show (x1.fty == p)=false from beq_eq_false_iff_ne.2 hqq] at hsm ha
  refine Kws.bad (f:=3) (p:=[]) ?_ (Kvy (by omega) (o0.trans (Kwx (m:=[]) rfl m1 r1 (by simp; omega) f1 (by rw [ht1]; exact Kw2 (.inr (by decide))) ha))) (by decide) (by simp; omega)
  rw [Kmu.eq_def]
  simp [e0,f0,i0,Koa,w0,e1,f1,hp0,hsm,Kmo]
 rw [show (x1.fty == p)=true from beq_iff_eq.2 hqq] at hsm ha
 have o1:=Kwy (out:=[y0]) (nd:=[Kte a]) (us:=[Kte []]) (w:=1) (t:=⟨10,N,ty,[k0,k1]⟩) (m:=[]) rfl m1 r1 (by simp; omega) f1 (by rw [ht1]; exact Kw2 (.inr (by decide))) ha nb (by simp <;> omega) (by simp) (by simp) (by simp) (by simp)
 have hf:=Kwm (N:=N) (ty:=ty) (ks:=[k0,k1]) (ctx:=ctx) (us:=[Kte [],Kte []]) (z:=Kte (List.replicate ctx.length 0)) (y0:=y0) (y1:=y1) hs hg (p:=p) (q:=q) (by rw [r0.ty,hq,hcg]) P ba bb (by omega) (by omega)
 have im:=Kxa (q:=q) (ns:=Ktr s n a (Kts s n g b)) (kids:=[y0,y1]) Lq (Kvz (p0:=⟨s⟩) (t:=⟨10,N,ty,[k0,k1]⟩) (ctx:=ctx) (by omega) (o0.trans (o1.trans (Kvq (Nat.le_refl _)))) hf)
 have lsc:(Kts s n g b).length=ctx.length:=by unfold Kts; rw [List.length_map]; exact lb
 refine Kws.good (q:=q) (ns:=Ktr s n a (Kts s n g b)) (kids:=[y0,y1]) ?_ im (by omega) P.yb (by unfold Ktr; rw [List.length_zipWith]; omega) (Ktx hs ba (Kty hs hg bb)) rfl (kd2 (Kwr.mk' (Kwz (by decide) rfl) r0 f0 (fun _ h=>by cases h) rfl) (Kwr.mk' (Kwz (by decide) rfl) r1 f1 (fun _ h=>by cases h) rfl))
 have hgr:Klg c0=some (g:Int):=by rw [hcg]; exact Kxs g h15
 rw [Kmu.eq_def]
 simp [e0,f0,i0,Koa,w0,e1,f1,hp0,hp1,hsm,hgr,na,nb,Ku3 hs g hg a b ba bb (by omega) (by omega)]
theorem Kxx (ih:Kx9 s n (tsz (⟨5,N,ty,ks⟩:K02))) (h:tOk (gN s.fSize true) (yN s.fSize true) ctx.length ⟨5,N,ty,ks⟩=true) (hc:∀ q ∈ ctx,TyS s q) (hb:ctx.length + 2 * tsz (⟨5,N,ty,ks⟩:K02) ≤ 1000000):∃ x y,Kws s n ctx ⟨5,N,ty,ks⟩ x y:=by
 obtain ⟨k0,k1,rfl,p0,p1⟩:=nd2 h (Nat.le_refl _) rfl
 have hz:=Ksz 5 N ty k0 k1
 obtain ⟨g,hN,hg⟩:=Kvh hs (Kvj h rfl)
 simp only at hN
 subst hN
 obtain ⟨x0,y0,r0⟩:=ih k0 ctx p0 hc (by omega)
 by_cases f0:x0.ffault=0
 rotate_left
 ·exact Kxb (by decide) (by decide) (by decide) hb r0 f0
 obtain ⟨g0,q0,a,na,la,ba⟩:=r0.gd f0
 obtain ⟨c0,t0,ht0,hn0,hz0⟩:=Kxe hs g0
 have L0:=Kv5 g0
 have e0:Kmw (s,ctx,⟨5,(g:Int),ty,[k0,k1]⟩,0)=some x0:=Kwt (i:=0) rfl r0 f0
 have C:=Kxv hs g0 ht0
 have i0:idx x0.fty 0=some c0:=by rw [ht0]; rfl
 by_cases z0:(Koe c0).1=1
 rotate_left
 ·have w0:c0 ≠ 1:=fun h=>z0 (C.one.1 h)
  refine Kws.bad (f:=4) (p:=[]) ?_ (Kvy (by omega) (Kww (m:=[]) rfl (Kx5 (by decide)) r0 (by simp; omega) f0 (by rw [ht0,Kw6 hs hg,if_neg z0]) (by decide))) (by decide) (by simp; omega)
  rw [Kmu.eq_def]
  simp [e0,f0,i0,Kmv.eq_def,w0,Kmo]
 obtain ⟨p,q,hcg,hq,P⟩:=C.pair z0
 have hle:=sLe hs.tab (Ktl hs) hg
 cases hl:le s n 1 g with
 | false =>
  have hl2:K9k (s,1,(g:Int))=some false:=by rw [← hl]; exact hle
  refine Kws.bad (f:=8) (p:=[]) ?_ (Kvy (by omega) (Kww (m:=[]) rfl (Kx5 (by decide)) r0 (by simp; omega) f0 (by rw [ht0,Kw6 hs hg,if_pos z0,hl]; rfl) (by decide))) (by decide) (by simp; omega)
  rw [Kmu.eq_def]
  simp [e0,f0,i0,Kmv.eq_def,hcg,hl2,Kmo]
 | true =>
 have hl2:K9k (s,1,(g:Int))=some true:=by rw [← hl]; exact hle
 have o0:=Kwy (out:=[]) (nd:=[]) (us:=[]) (w:=0) (t:=⟨5,(g:Int),ty,[k0,k1]⟩) (m:=[]) rfl (Kx5 (by decide)) r0 (by simp; omega) f0 (by rw [ht0,Kw6 hs hg,if_pos z0,hl]; rfl) (Kw0 (show (5:Int) ≠ 10 by decide)) na (by simp <;> omega) (by simp) (by simp) (by simp) (by simp)
 have hp0:Kma (x0.fty,0)=some p:=by rw [hq,hcg]; exact P.p0
 have hp1:Kma (x0.fty,1)=some q:=by rw [hq,hcg]; exact P.p1
 have ad:Kh4 (⟨5,(g:Int),ty,[k0,k1]⟩,((1:Nat):Int),y0.fty)=some [q,p]:=by rw [r0.ty,hq,hcg]; exact Kx1 P
 have hm':∀ z ∈ [q,p],TyS s z:=fun z hz=>by simp at hz; rcases hz with rfl | rfl; exact P.yb; exact P.ya
 have m1:Kvn ⟨5,(g:Int),ty,[k0,k1]⟩ [y0] 1=some [q,p]:=Kx7 (by decide) ad
 have p1':Kvi s ([q,p] ++ ctx).length k1 (tsz (⟨5,(g:Int),ty,[k0,k1]⟩:K02)):=by
  have e:([q,p] ++ ctx).length=ctx.length + Kpj 5 1:=by simp [Kpj]
  rw [e]; exact p1
 obtain ⟨x1,y1,r1⟩:=ih k1 ([q,p] ++ ctx) p1' (fun z hz=>by rcases List.mem_append.1 hz with hz | hz; exact hm' z hz; exact hc z hz) (by simp; omega)
 have hwc:=Kuh ctx [q,p] (by simp; omega)
 by_cases f1:x1.ffault=0
 rotate_left
 ·have e1:Kmw (s,q :: p :: ctx,⟨5,(g:Int),ty,[k0,k1]⟩,1)=some ⟨[],[],x1.ffault,1 :: x1.fpath⟩:=Kwu (i:=1) rfl r1 (by omega) f1
  refine Kws.bad (f:=x1.ffault) (p:=1 :: x1.fpath) ?_ (Kvy (by omega) (o0.trans (Kwv (m:=[q,p]) rfl m1 r1 (by omega) (by simp; omega) f1))) f1 (by have:=r1.pl; simp; omega)
  rw [Kmu.eq_def]
  simp [e0,f0,i0,Kmv.eq_def,hcg,hl2,hp0,hp1,hwc,e1,f1]
 obtain ⟨g1,q1,b,nb,lb,bb⟩:=r1.gd f1
 obtain ⟨c1,t1,ht1,hn1,hz1⟩:=Kxe hs g1
 have L1:=Kv5 g1
 have e1:Kmw (s,q :: p :: ctx,⟨5,(g:Int),ty,[k0,k1]⟩,1)=some x1:=Kwt (i:=1) rfl r1 f1
 have lb':b.length=ctx.length + 2:=by rw [lb]; simp
 obtain ⟨u0,u1,b',rfl⟩:∃ u0 u1 b',b=u0 :: u1 :: b':=by match b,lb' with | u0 :: u1 :: b',_=>exact ⟨u0,u1,b',rfl⟩ | [_],h=>simp at h | [],h=>simp at h
 obtain ⟨hu0,bb1⟩:=Ktv bb
 obtain ⟨hu1,bb'⟩:=Ktv bb1
 have o1:=Kwy (out:=[y0]) (nd:=[Kte a]) (us:=[Kte []]) (w:=1) (t:=⟨5,(g:Int),ty,[k0,k1]⟩) (m:=[q,p]) rfl m1 r1 (by simp; omega) f1 (by rw [ht1]; exact Kw2 (.inr (by decide))) (Kw0 (show (5:Int) ≠ 10 by decide)) nb (by simp <;> omega) (by simp) (by simp) (by simp) (by simp)
 simp only [List.length_cons,List.length_nil,Nat.zero_add,List.drop_succ_cons,List.drop_zero,List.take_succ_cons,List.take_zero,List.nil_append] at o1
 have hl0:=o0.trans (o1.trans (Kvq (Nat.le_refl _)))
 have lbc:b'.length=ctx.length:=by simp at lb'; omega
 have i1:idx x1.fneeds 0=some (u0:Int):=by rw [nb]; rfl
 have hcut:cut x1.fneeds (some (2:Int)) none none=some (Kte b'):=by
  rw [nb]
  have:=Kvs (l:=Kte (u0 :: u1 :: b')) (m:=2) (by simp [Kte])
  exact this
 have hcp:=Kq0 (Kte b') (by rw [Ktf]; omega)
 have i2:idx x1.fneeds 1=some (u1:Int):=by rw [nb]; rfl
 have hle0:=sLe hs.tab hu0 hg
 have hle1:=sLe hs.tab hu1 hg
 have hf:=Kwn (ty:=ty) (ks:=[k0,k1]) (ctx:=ctx) (z:=Kte (List.replicate ctx.length 0)) (y0:=y0) (y1:=y1) (us':=Kte []) (u:=[u0,u1]) hs hg (fun x hx=>by simp at hx; rcases hx with rfl | rfl; exact hu0; exact hu1) (by simp) ba bb' (by omega) (by omega) (by rw [r1.ty]; omega)
 simp only [List.all_cons,List.all_nil,Bool.and_true] at hf
 have es:=e1
 cases hal:(le s n u0 g && le s n u1 g) with
 | false =>
  rw [hal,if_neg (by decide)] at hf
  refine Kws.bad (f:=9) (p:=[]) ?_ (Kvz (by omega) hl0 hf) (by decide) (by simp; omega)
  rw [Kmu.eq_def]
  simp [e0,f0,i0,Kmv.eq_def,hcg,hl2,hp0,hp1,hwc,e1,f1,i1,i2,hcut,hcp,hle0,hle1,Kmo]
  cases q1:le s n u1 g with
  | false=>simp
  | true=>rw [q1,Bool.and_true] at hal; simp [hal]
 | true =>
  rw [hal,if_pos rfl] at hf
  have im:=Kxa (q:=y1.fty) (ns:=Ktr s n (Kts s n g a) b') (kids:=[y0,y1]) (by rw [r1.ty]; omega) (Kvz (by omega) hl0 hf)
  rw [r1.ty] at im
  have lsc:(Kts s n g a).length=ctx.length:=by unfold Kts; rw [List.length_map]; exact la
  have hsc:=Kty hs hg ba
  have hz0:=Ku1 hs hsc
  rw [lsc] at hz0
  have hsum:=Ku3 hs g hg (List.replicate ctx.length 0) a (fun x hx=>by rw [List.eq_of_mem_replicate hx]; exact Ktm hs) ba (by simp; omega) (by simp [la])
  rw [hz0] at hsum
  have hs2:=Ku4 hs (Kts s n g a) b' hsc bb' (by omega) (by omega)
  refine Kws.good (q:=x1.fty) (ns:=Ktr s n (Kts s n g a) b') (kids:=[y0,y1]) ?_ im (by omega) g1 (by unfold Ktr; rw [List.length_zipWith]; omega) (Ktx hs hsc bb') rfl (kd2 (Kwr.mk' (Kwz (by decide) rfl) r0 f0 (fun _ h=>by cases h) rfl) (Kwr.mk' ad r1 f1 hm' rfl))
  rw [Kmu.eq_def]
  rw [Bool.and_eq_true] at hal
  simp [e0,f0,i0,Kmv.eq_def,hcg,hl2,hp0,hp1,hwc,e1,f1,i1,i2,hcut,hcp,hle0,hle1,hal.1,hal.2,na,Kug ctx.length (by omega),hsum,hs2]
theorem Kxy (ih:Kx9 s n (tsz (⟨12,N,ty,ks⟩:K02))) (h:tOk (gN s.fSize true) (yN s.fSize true) ctx.length ⟨12,N,ty,ks⟩=true) (hc:∀ q ∈ ctx,TyS s q) (hb:ctx.length + 2 * tsz (⟨12,N,ty,ks⟩:K02) ≤ 1000000):∃ x y,Kws s n ctx ⟨12,N,ty,ks⟩ x y:=by
 obtain ⟨k0,k1,rfl,p0,p1⟩:=nd2 h (Nat.le_refl _) rfl
 have hz:=Ksz 12 N ty k0 k1
 obtain ⟨g,hN,hg⟩:=Kvh hs (Kvj h rfl)
 simp only at hN
 subst hN
 obtain ⟨x0,y0,r0⟩:=ih k0 ctx p0 hc (by omega)
 by_cases f0:x0.ffault=0
 rotate_left
 ·exact Kxb (by decide) (by decide) (by decide) hb r0 f0
 obtain ⟨g0,q0,a,na,la,ba⟩:=r0.gd f0
 obtain ⟨c0,t0,ht0,hn0,hz0⟩:=Kxe hs g0
 have L0:=Kv5 g0
 have e0:Kmw (s,ctx,⟨12,(g:Int),ty,[k0,k1]⟩,0)=some x0:=Kwt (i:=0) rfl r0 f0
 have C:=Kxv hs g0 ht0
 have i0:idx x0.fty 0=some c0:=by rw [ht0]; rfl
 by_cases z0:(Koe c0).1=4
 rotate_left
 ·have w0:Ko8 c0=false:=by cases h:Ko8 c0 with | true=>exact absurd (C.boxB.1 h) z0 | false=>rfl
  refine Kws.bad (f:=7) (p:=[]) ?_ (Kvy (by omega) (Kww (m:=[]) rfl (Kx5 (by decide)) r0 (by simp; omega) f0 (by rw [ht0,Kw8 hs hg,if_neg z0]) (by decide))) (by decide) (by simp; omega)
  rw [Kmu.eq_def]
  simp [e0,f0,i0,Kmv.eq_def,Kob,w0,Kmo]
 obtain ⟨m,p,hm,h15,hcg,hq,P⟩:=C.box z0
 have w0:Ko8 c0=true:=C.boxB.2 z0
 have hle:=sLe hs.tab (Ktl hs) hg
 cases hl:le s n 1 g with
 | false =>
  have hl2:K9k (s,1,(g:Int))=some false:=by rw [← hl]; exact hle
  refine Kws.bad (f:=8) (p:=[]) ?_ (Kvy (by omega) (Kww (m:=[]) rfl (Kx5 (by decide)) r0 (by simp; omega) f0 (by rw [ht0,Kw8 hs hg,if_pos z0,hl]; rfl) (by decide))) (by decide) (by simp; omega)
  rw [Kmu.eq_def]
  simp [e0,f0,i0,Kmv.eq_def,Kob,w0,hl2,Kmo]
 | true =>
 have hl2:K9k (s,1,(g:Int))=some true:=by rw [← hl]; exact hle
 have o0:=Kwy (out:=[]) (nd:=[]) (us:=[]) (w:=0) (t:=⟨12,(g:Int),ty,[k0,k1]⟩) (m:=[]) rfl (Kx5 (by decide)) r0 (by simp; omega) f0 (by rw [ht0,Kw8 hs hg,if_pos z0,hl]; rfl) (Kw0 (show (12:Int) ≠ 10 by decide)) na (by simp <;> omega) (by simp) (by simp) (by simp) (by simp)
 have hp0:Kma (x0.fty,0)=some p:=by rw [hq,hcg]; exact P.p0
 have ad:Kh4 (⟨12,(g:Int),ty,[k0,k1]⟩,((1:Nat):Int),y0.fty)=some [p]:=by rw [r0.ty,hq,hcg]; exact Kx4 P
 have hm':∀ z ∈ [p],TyS s z:=fun z hz=>by simp at hz; rw [hz]; exact P.ya
 have hgr:Klg c0=some (m:Int):=by rw [hcg]; exact Kxt m h15
 have m1:Kvn ⟨12,(g:Int),ty,[k0,k1]⟩ [y0] 1=some [p]:=Kx7 (by decide) ad
 have p1':Kvi s ([p] ++ ctx).length k1 (tsz (⟨12,(g:Int),ty,[k0,k1]⟩:K02)):=by
  have e:([p] ++ ctx).length=ctx.length + Kpj 12 1:=by simp [Kpj]
  rw [e]; exact p1
 obtain ⟨x1,y1,r1⟩:=ih k1 ([p] ++ ctx) p1' (fun z hz=>by rcases List.mem_append.1 hz with hz | hz; exact hm' z hz; exact hc z hz) (by simp; omega)
 have hwc:=Kuh ctx [p] (by simp; omega)
 by_cases f1:x1.ffault=0
 rotate_left
 ·have e1:Kmw (s,p :: ctx,⟨12,(g:Int),ty,[k0,k1]⟩,1)=some ⟨[],[],x1.ffault,1 :: x1.fpath⟩:=Kwu (i:=1) rfl r1 (by omega) f1
  refine Kws.bad (f:=x1.ffault) (p:=1 :: x1.fpath) ?_ (Kvy (by omega) (o0.trans (Kwv (m:=[p]) rfl m1 r1 (by omega) (by simp; omega) f1))) f1 (by have:=r1.pl; simp; omega)
  rw [Kmu.eq_def]
  simp [e0,f0,i0,Kmv.eq_def,Kob,w0,hl2,hp0,hwc,e1,f1]
 obtain ⟨g1,q1,b,nb,lb,bb⟩:=r1.gd f1
 obtain ⟨c1,t1,ht1,hn1,hz1⟩:=Kxe hs g1
 have L1:=Kv5 g1
 have e1:Kmw (s,p :: ctx,⟨12,(g:Int),ty,[k0,k1]⟩,1)=some x1:=Kwt (i:=1) rfl r1 f1
 have lb':b.length=ctx.length + 1:=by rw [lb]; simp
 obtain ⟨u0,b',rfl⟩:∃ u0 b',b=u0 :: b':=by match b,lb' with | u0 :: b',_=>exact ⟨u0,b',rfl⟩ | [],h=>simp at h
 obtain ⟨hu0,bb'⟩:=Ktv bb
 have o1:=Kwy (out:=[y0]) (nd:=[Kte a]) (us:=[Kte []]) (w:=1) (t:=⟨12,(g:Int),ty,[k0,k1]⟩) (m:=[p]) rfl m1 r1 (by simp; omega) f1 (by rw [ht1]; exact Kw2 (.inr (by decide))) (Kw0 (show (12:Int) ≠ 10 by decide)) nb (by simp <;> omega) (by simp) (by simp) (by simp) (by simp)
 simp only [List.length_cons,List.length_nil,Nat.zero_add,List.drop_succ_cons,List.drop_zero,List.take_succ_cons,List.take_zero,List.nil_append] at o1
 have hl0:=o0.trans (o1.trans (Kvq (Nat.le_refl _)))
 have lbc:b'.length=ctx.length:=by simp at lb'; omega
 have i1:idx x1.fneeds 0=some (u0:Int):=by rw [nb]; rfl
 have hcut:cut x1.fneeds (some (1:Int)) none none=some (Kte b'):=by
  rw [nb]
  have:=Kvs (l:=Kte (u0 :: b')) (m:=1) (by simp [Kte])
  exact this
 have hcp:=Kq0 (Kte b') (by rw [Ktf]; omega)
 have hmul:=Knd hs.tab hg hm
 have htm:=Kn8 hs.tab hg hm
 have hle0:=sLe hs.tab hu0 htm
 have hf:=Kwo (ty:=ty) (ks:=[k0,k1]) (ctx:=ctx) (z:=Kte (List.replicate ctx.length 0)) (y0:=y0) (y1:=y1) (us':=Kte []) (u:=[u0]) hs hg hm (p:=p) (by rw [r0.ty,hq,hcg]) (fun x hx=>by simp at hx; rw [hx]; exact hu0) (by simp) ba bb' (by omega) (by omega) (by rw [r1.ty]; omega)
 simp only [List.all_cons,List.all_nil,Bool.and_true] at hf
 have es:=e1
 cases hal:(le s n u0 (ti s n g m)) with
 | false =>
  rw [hal,if_neg (by decide)] at hf
  refine Kws.bad (f:=9) (p:=[]) ?_ (Kvz (by omega) hl0 hf) (by decide) (by simp; omega)
  rw [Kmu.eq_def]
  simp [e0,f0,i0,Kmv.eq_def,Kob,w0,hl2,hp0,hwc,e1,f1,i1,hcut,hcp,hgr,hmul,hle0,hal,Kmo]
 | true =>
  rw [hal,if_pos rfl] at hf
  have im:=Kxa (q:=y1.fty) (ns:=Ktr s n (Kts s n g a) b') (kids:=[y0,y1]) (by rw [r1.ty]; omega) (Kvz (by omega) hl0 hf)
  rw [r1.ty] at im
  have lsc:(Kts s n g a).length=ctx.length:=by unfold Kts; rw [List.length_map]; exact la
  have hsc:=Kty hs hg ba
  have hz0:=Ku1 hs hsc
  rw [lsc] at hz0
  have hsum:=Ku3 hs g hg (List.replicate ctx.length 0) a (fun x hx=>by rw [List.eq_of_mem_replicate hx]; exact Ktm hs) ba (by simp; omega) (by simp [la])
  rw [hz0] at hsum
  have hs2:=Ku4 hs (Kts s n g a) b' hsc bb' (by omega) (by omega)
  refine Kws.good (q:=x1.fty) (ns:=Ktr s n (Kts s n g a) b') (kids:=[y0,y1]) ?_ im (by omega) g1 (by unfold Ktr; rw [List.length_zipWith]; omega) (Ktx hs hsc bb') rfl (kd2 (Kwr.mk' (Kwz (by decide) rfl) r0 f0 (fun _ h=>by cases h) rfl) (Kwr.mk' ad r1 f1 hm' rfl))
  rw [Kmu.eq_def]
  simp [e0,f0,i0,Kmv.eq_def,Kob,w0,hl2,hp0,hwc,e1,f1,i1,hcut,hcp,hgr,hmul,hle0,hal,na,Kug ctx.length (by omega),hsum,hs2]
theorem Kxz (ih:Kx9 s n (tsz (⟨8,N,ty,ks⟩:K02))) (h:tOk (gN s.fSize true) (yN s.fSize true) ctx.length ⟨8,N,ty,ks⟩=true) (hc:∀ q ∈ ctx,TyS s q) (hb:ctx.length + 2 * tsz (⟨8,N,ty,ks⟩:K02) ≤ 1000000):∃ x y,Kws s n ctx ⟨8,N,ty,ks⟩ x y:=by
 obtain ⟨k0,k1,k2,rfl,p0,p1,p2⟩:=nd3 h (Nat.le_refl _) rfl
 have hz:=Kt0 8 N ty k0 k1 k2
 obtain ⟨g,hN,hg⟩:=Kvh hs (Kvj h rfl)
 simp only at hN
 subst hN
 obtain ⟨x0,y0,r0⟩:=ih k0 ctx p0 hc (by omega)
 by_cases f0:x0.ffault=0
 rotate_left
 ·exact Kxb (by decide) (by decide) (by decide) hb r0 f0
 obtain ⟨g0,q0,a,na,la,ba⟩:=r0.gd f0
 obtain ⟨c0,t0,ht0,hn0,hz0⟩:=Kxe hs g0
 have L0:=Kv5 g0
 have e0:Kmw (s,ctx,⟨8,(g:Int),ty,[k0,k1,k2]⟩,0)=some x0:=Kwt (i:=0) rfl r0 f0
 have C:=Kxv hs g0 ht0
 have i0:idx x0.fty 0=some c0:=by rw [ht0]; rfl
 by_cases z0:(Koe c0).1=2
 rotate_left
 ·have w0:c0 ≠ 2:=fun h=>z0 (C.two.1 h)
  refine Kws.bad (f:=5) (p:=[]) ?_ (Kvy (by omega) (Kww (m:=[]) rfl (Kx5 (by decide)) r0 (by simp; omega) f0 (by rw [ht0,Kw7 hs hg,if_neg z0]) (by decide))) (by decide) (by simp; omega)
  rw [Kmu.eq_def]
  simp [e0,f0,i0,Kmv.eq_def,w0,Kmo]
 obtain ⟨p,q,hcg,hq,P⟩:=C.sum z0
 have hle:=sLe hs.tab (Ktl hs) hg
 cases hl:le s n 1 g with
 | false =>
  have hl2:K9k (s,1,(g:Int))=some false:=by rw [← hl]; exact hle
  refine Kws.bad (f:=8) (p:=[]) ?_ (Kvy (by omega) (Kww (m:=[]) rfl (Kx5 (by decide)) r0 (by simp; omega) f0 (by rw [ht0,Kw7 hs hg,if_pos z0,hl]; rfl) (by decide))) (by decide) (by simp; omega)
  rw [Kmu.eq_def]
  simp [e0,f0,i0,Kmv.eq_def,hcg,hl2,Kmo]
 | true =>
 have hl2:K9k (s,1,(g:Int))=some true:=by rw [← hl]; exact hle
 have o0:=Kwy (out:=[]) (nd:=[]) (us:=[]) (w:=0) (t:=⟨8,(g:Int),ty,[k0,k1,k2]⟩) (m:=[]) rfl (Kx5 (by decide)) r0 (by simp; omega) f0 (by rw [ht0,Kw7 hs hg,if_pos z0,hl]; rfl) (Kw0 (show (8:Int) ≠ 10 by decide)) na (by simp <;> omega) (by simp) (by simp) (by simp) (by simp)
 have hp0:Kma (x0.fty,0)=some p:=by rw [hq,hcg]; exact P.p0
 have hp1:Kma (x0.fty,1)=some q:=by rw [hq,hcg]; exact P.p1
 have ad1:Kh4 (⟨8,(g:Int),ty,[k0,k1,k2]⟩,((1:Nat):Int),y0.fty)=some [p]:=by rw [r0.ty,hq,hcg]; exact Kx2 P
 have ad2:Kh4 (⟨8,(g:Int),ty,[k0,k1,k2]⟩,((2:Nat):Int),y0.fty)=some [q]:=by rw [r0.ty,hq,hcg]; exact Kx3 P
 have hm1:∀ z ∈ [p],TyS s z:=fun z hz=>by simp at hz; rw [hz]; exact P.ya
 have hm2:∀ z ∈ [q],TyS s z:=fun z hz=>by simp at hz; rw [hz]; exact P.yb
 have m1:Kvn ⟨8,(g:Int),ty,[k0,k1,k2]⟩ [y0] 1=some [p]:=Kx7 (by decide) ad1
 have p1':Kvi s ([p] ++ ctx).length k1 (tsz (⟨8,(g:Int),ty,[k0,k1,k2]⟩:K02)):=by
  have e:([p] ++ ctx).length=ctx.length + Kpj 8 1:=by simp [Kpj]
  rw [e]; exact p1
 obtain ⟨x1,y1,r1⟩:=ih k1 ([p] ++ ctx) p1' (fun z hz=>by rcases List.mem_append.1 hz with hz | hz; exact hm1 z hz; exact hc z hz) (by simp; omega)
 have hw1:=Kuh ctx [p] (by simp; omega)
 by_cases f1:x1.ffault=0
 rotate_left
 ·have e1:Kmw (s,p :: ctx,⟨8,(g:Int),ty,[k0,k1,k2]⟩,1)=some ⟨[],[],x1.ffault,1 :: x1.fpath⟩:=Kwu (i:=1) rfl r1 (by omega) f1
  refine Kws.bad (f:=x1.ffault) (p:=1 :: x1.fpath) ?_ (Kvy (by omega) (o0.trans (Kwv (m:=[p]) rfl m1 r1 (by omega) (by simp; omega) f1))) f1 (by have:=r1.pl; simp; omega)
  rw [Kmu.eq_def]
  simp [e0,f0,i0,Kmv.eq_def,hcg,hl2,hp0,hp1,hw1,e1,f1]
 obtain ⟨g1,q1,b,nb,lb,bb⟩:=r1.gd f1
 obtain ⟨c1,t1,ht1,hn1,hz1⟩:=Kxe hs g1
 have L1:=Kv5 g1
 have e1:Kmw (s,p :: ctx,⟨8,(g:Int),ty,[k0,k1,k2]⟩,1)=some x1:=Kwt (i:=1) rfl r1 f1
 have lb':b.length=ctx.length + 1:=by rw [lb]; simp
 obtain ⟨u0,b',rfl⟩:∃ u0 b',b=u0 :: b':=by match b,lb' with | u0 :: b',_=>exact ⟨u0,b',rfl⟩ | [],h=>simp at h
 obtain ⟨hu0,bb'⟩:=Ktv bb
 have lbc:b'.length=ctx.length:=by simp at lb'; omega
 have i1:idx x1.fneeds 0=some (u0:Int):=by rw [nb]; rfl
 have hcut1:cut x1.fneeds (some (1:Int)) none none=some (Kte b'):=by rw [nb]; exact Kry _ _
 have hcp1:=Kq0 (Kte b') (by rw [Ktf]; omega)
 have o1:=Kwy (out:=[y0]) (nd:=[Kte a]) (us:=[Kte []]) (w:=1) (t:=⟨8,(g:Int),ty,[k0,k1,k2]⟩) (m:=[p]) rfl m1 r1 (by simp; omega) f1 (by rw [ht1]; exact Kw2 (.inr (by decide))) (Kw0 (show (8:Int) ≠ 10 by decide)) nb (by simp <;> omega) (by simp) (by simp) (by simp) (by simp)
 simp only [List.length_cons,List.length_nil,Nat.zero_add,List.drop_succ_cons,List.drop_zero,List.take_succ_cons,List.take_zero,List.nil_append,List.cons_append] at o1
 have m2:Kvn ⟨8,(g:Int),ty,[k0,k1,k2]⟩ [y0,y1] 2=some [q]:=Kx7 (by decide) ad2
 have p2':Kvi s ([q] ++ ctx).length k2 (tsz (⟨8,(g:Int),ty,[k0,k1,k2]⟩:K02)):=by
  have e:([q] ++ ctx).length=ctx.length + Kpj 8 2:=by simp [Kpj]
  rw [e]; exact p2
 obtain ⟨x2,y2,r2⟩:=ih k2 ([q] ++ ctx) p2' (fun z hz=>by rcases List.mem_append.1 hz with hz | hz; exact hm2 z hz; exact hc z hz) (by simp; omega)
 have hw2:=Kuh ctx [q] (by simp; omega)
 by_cases f2:x2.ffault=0
 rotate_left
 ·have e2:Kmw (s,q :: ctx,⟨8,(g:Int),ty,[k0,k1,k2]⟩,2)=some ⟨[],[],x2.ffault,2 :: x2.fpath⟩:=Kwu (i:=2) rfl r2 (by omega) f2
  refine Kws.bad (f:=x2.ffault) (p:=2 :: x2.fpath) ?_ (Kvy (by omega) (o0.trans (o1.trans (Kwv (m:=[q]) rfl m2 r2 (by omega) (by simp; omega) f2)))) f2 (by have:=r2.pl; simp; omega)
  rw [Kmu.eq_def]
  simp [e0,f0,i0,Kmv.eq_def,hcg,hl2,hp0,hp1,hw1,e1,f1,hcut1,hcp1,hw2,e2,f2]
 obtain ⟨g2,q2,d,nd,ld,bd⟩:=r2.gd f2
 obtain ⟨c2,t2,ht2,hn2,hz2⟩:=Kxe hs g2
 have L2:=Kv5 g2
 have e2:Kmw (s,q :: ctx,⟨8,(g:Int),ty,[k0,k1,k2]⟩,2)=some x2:=Kwt (i:=2) rfl r2 f2
 have ld':d.length=ctx.length + 1:=by rw [ld]; simp
 obtain ⟨v0,d',rfl⟩:∃ v0 d',d=v0 :: d':=by match d,ld' with | v0 :: d',_=>exact ⟨v0,d',rfl⟩ | [],h=>simp at h
 obtain ⟨hv0,bd'⟩:=Ktv bd
 have ldc:d'.length=ctx.length:=by simp at ld'; omega
 have i2:idx x2.fneeds 0=some (v0:Int):=by rw [nd]; rfl
 have hcut2:cut x2.fneeds (some (1:Int)) none none=some (Kte d'):=by rw [nd]; exact Kry _ _
 have o2:=Kwy (out:=[y0,y1]) (nd:=[Kte a,Kte b']) (us:=[Kte [],Kte [u0]]) (w:=2) (t:=⟨8,(g:Int),ty,[k0,k1,k2]⟩) (m:=[q]) rfl m2 r2 (by simp; omega) f2 (by rw [ht2]; exact Kw2 (.inr (by decide))) (Kw0 (show (8:Int) ≠ 10 by decide)) nd (by simp <;> omega) (by simp) (by simp) (by simp) (by simp)
 simp only [List.length_cons,List.length_nil,Nat.zero_add,List.drop_succ_cons,List.drop_zero,List.take_succ_cons,List.take_zero,List.nil_append,List.cons_append] at o2
 have hl0:=o0.trans (o1.trans (o2.trans (Kvq (Nat.le_refl _))))
 have hle0:=sLe hs.tab hu0 hg
 have hle1:=sLe hs.tab hv0 hg
 have hf:=Kwp (ty:=ty) (ks:=[k0,k1,k2]) (ctx:=ctx) (z:=Kte (List.replicate ctx.length 0)) (y0:=y0) (y1:=y1) (y2:=y2) (us':=Kte []) (u:=[u0]) (v:=[v0]) hs hg (fun x hx=>by simp at hx; rw [hx]; exact hu0) (by simp) (fun x hx=>by simp at hx; rw [hx]; exact hv0) (by simp) ba bb' bd' (by omega) (by omega) (by omega) (by rw [r2.ty]; omega) (by rw [r1.ty]; omega)
 simp only [List.all_cons,List.all_nil,Bool.and_true] at hf
 rw [r1.ty,r2.ty] at hf
 have hsm:=Ksc x1.fty x2.fty (by omega)
 have hj:=Ku6 hs b' d' bb' bd' (by omega) (by omega)
 have lj:(Ktt s n b' d').length=ctx.length:=by unfold Ktt; rw [List.length_zipWith]; omega
 by_cases hqq:x1.fty=x2.fty
 rotate_left
 ·rw [if_neg hqq] at hf
  rw [show (x1.fty == x2.fty)=false from beq_eq_false_iff_ne.2 hqq] at hsm
  refine Kws.bad (f:=3) (p:=[]) ?_ (Kvz (by omega) hl0 hf) (by decide) (by simp; omega)
  rw [Kmu.eq_def]
  simp [e0,f0,i0,Kmv.eq_def,hcg,hl2,hp0,hp1,hw1,e1,f1,hcut1,hcp1,hw2,e2,f2,hsm,Kmo]
 rw [if_pos hqq] at hf
 rw [show (x1.fty == x2.fty)=true from beq_iff_eq.2 hqq] at hsm
 by_cases hal:le s n u0 g=true∧le s n v0 g=true
 rotate_left
 ·rw [if_neg hal] at hf
  refine Kws.bad (f:=9) (p:=[]) ?_ (Kvz (by omega) hl0 hf) (by decide) (by simp; omega)
  rw [Kmu.eq_def]
  simp [e0,f0,i0,Kmv.eq_def,hcg,hl2,hp0,hp1,hw1,e1,f1,hcut1,hcp1,hw2,e2,f2,hsm,i1,i2,hle0,hle1,hcut2,hj,Kmo]
  cases q1:le s n v0 g with
  | false=>simp
  | true =>
   cases q2:le s n u0 g with
   | false=>simp
   | true=>exact absurd ⟨q2,q1⟩ hal
 rw [if_pos hal] at hf
 have im:=Kxa (q:=x1.fty) (ns:=Ktr s n (Kts s n g a) (Ktt s n b' d')) (kids:=[y0,y1,y2]) (by omega) (Kvz (by omega) hl0 hf)
 have lsc:(Kts s n g a).length=ctx.length:=by unfold Kts; rw [List.length_map]; exact la
 have hsc:=Kty hs hg ba
 have hz0:=Ku1 hs hsc
 rw [lsc] at hz0
 have hsum:=Ku3 hs g hg (List.replicate ctx.length 0) a (fun x hx=>by rw [List.eq_of_mem_replicate hx]; exact Ktm hs) ba (by simp; omega) (by simp [la])
 rw [hz0] at hsum
 have hs2:=Ku4 hs (Kts s n g a) (Ktt s n b' d') hsc (Ktz hs bb' bd') (by omega) (by omega)
 refine Kws.good (q:=x1.fty) (ns:=Ktr s n (Kts s n g a) (Ktt s n b' d')) (kids:=[y0,y1,y2]) ?_ im (by omega) g1 (by unfold Ktr; rw [List.length_zipWith]; omega) (Ktx hs hsc (Ktz hs bb' bd')) rfl (kd3 (Kwr.mk' (Kwz (by decide) rfl) r0 f0 (fun _ h=>by cases h) rfl) (Kwr.mk' ad1 r1 f1 hm1 rfl) (Kwr.mk' ad2 r2 f2 hm2 rfl))
 rw [Kmu.eq_def]
 simp [e0,f0,i0,Kmv.eq_def,hcg,hl2,hp0,hp1,hw1,e1,f1,hcut1,hcp1,hw2,e2,f2,hsm,i1,i2,hle0,hle1,hal.1,hal.2,hcut2,hj,na,Kug ctx.length (by omega),hsum,hs2]
theorem Ky0:∀ (m:Nat) (t:K02) (ctx:List (List Int)),tsz t ≤ m→tOk (gN s.fSize true) (yN s.fSize true) ctx.length t=true→(∀ q ∈ ctx,TyS s q)→ctx.length + 2 * tsz t ≤ 1000000→∃ x y,Kws s n ctx t x y
 | 0,t,ctx,hm,_,_,_=>by obtain ⟨op,N,ty,ks⟩:=t; rw [tsz] at hm; omega
 | m + 1,t,ctx,hm,h,hc,hb=>by
  have ih:Kx9 s n (tsz t):=fun k c hk hc hb=>Ky0 m k c (by have:=hk.sz; omega) hk.ok hc hb
  obtain ⟨op,N,ty,ks⟩:=t
  have hop:=(Kpz (Kpx h).1).1
  simp only at hop
  rcases Kpd hop with rfl | rfl | rfl | rfl | rfl | rfl | rfl | rfl | rfl | rfl | rfl | rfl | rfl
  ·exact Kxc hs rfl h hc hb
  ·exact Kxd hs rfl h hb
  ·exact Kxk hs ih h hc hb
  ·exact Kxl hs ih h hc hb
  ·exact Kxj hs ih h hc hb
  ·exact Kxx hs ih h hc hb
  ·exact Kxf hs ih h hc hb
  ·exact Kxg hs ih h hc hb
  ·exact Kxz hs ih h hc hb
  ·exact Kxi hs ih h hc hb
  ·exact Kxw hs ih h hc hb
  ·exact Kxh hs ih h hc hb
  ·exact Kxy hs ih h hc hb
end
theorem Ky1 {l:List (List Int)} {v:List Int} (h:v ∈ l):v.length ≤ lms l:=by
 have:=Krx h
 unfold lms; omega
theorem Ky2 {s:K00} {ctx:List (List Int)} {t:K02} (h:Kv2 s ctx t=true):Ktj s s.fSize.toNat∧ctx.length ≤ 8∧(∀ q ∈ ctx,TyS s q)∧tsz t ≤ 400∧tOk (gN s.fSize true) (yN s.fSize true) ctx.length t=true:=by
 unfold Kv2 Kus Ksv at h
 simp only [Bool.and_eq_true,decide_eq_true_eq,List.all_eq_true] at h
 exact ⟨Ktk h.1.1,h.1.2.1,fun q hq=>h.1.2.2 q hq,h.2.1.2,h.2.2⟩
theorem Ky3 {s:K00} {ctx:List (List Int)} {t:K02} (h:Kv2 s ctx t=true):∃ x y,Kws s s.fSize.toNat ctx t x y:=by
 obtain ⟨h1,h2,h3,h4,h5⟩:=Ky2 h
 exact Ky0 h1 (tsz t) t ctx (Nat.le_refl _) h5 h3 (by omega)
theorem Ky4 {s:K00} {ctx:List (List Int)} {t:K02} (hc:lms ctx ≤ 1048576) (ht:tms t ≤ 1099511627776) :
  (Kv2 s ctx t=false∧Kml (s,ctx,t)=some false∧Kk9 (s,ctx,t)=some none) ∨
  (Kv2 s ctx t=true∧Kml (s,ctx,t)=some true∧∃ x y,Kws s s.fSize.toNat ctx t x y∧Kk9 (s,ctx,t)=some (some y)):=by
 have hl:∀ ty ∈ ctx,ty.length ≤ 1099511627776:=fun ty h=>by have:=Ky1 h; omega
 have hc':ctx.length ≤ 1048576:=by unfold lms at hc; omega
 have h1:=Kv3 s ctx t hc' hl ht
 have h2:=Kv4 s ctx t hc' hl ht
 cases h:Kv2 s ctx t with
 | false=>rw [h] at h1 h2; exact .inl ⟨rfl,h1,by simpa using h2⟩
 | true =>
  rw [h] at h1 h2
  obtain ⟨x,y,r⟩:=Ky3 h
  refine .inr ⟨rfl,h1,x,y,r,?_⟩
  rw [if_pos rfl,r.im,bs] at h2
  exact h2
theorem Ky5 (s:K00) (ctx:List (List Int)) (t:K02) (hc:lms ctx ≤ 1048576) (ht:tms t ≤ 1099511627776) :
  (Kmy (s,ctx,t)=some ([],[],false)∧Kkc (s,ctx,t)=some ([],[],false)∧(Kv2 s ctx t=false∨∃ x y,Kws s s.fSize.toNat ctx t x y∧x.ffault ≠ 0)) ∨
  ∃ x y,Kws s s.fSize.toNat ctx t x y∧x.ffault=0∧Kv2 s ctx t=true∧Kmy (s,ctx,t)=some (x.fty,x.fneeds,true)∧Kkc (s,ctx,t)=some (x.fty,x.fneeds,true)∧Kk9 (s,ctx,t)=some (some y):=by
 unfold Kmy Kkc
 simp only
 rcases Ky4 (s:=s) hc ht with ⟨h0,h1,h2⟩ | ⟨h0,h1,x,y,r,h2⟩
 ·rw [h1,h2]
  exact .inl ⟨rfl,rfl,.inl h0⟩
 ·rw [h1,h2,bs,bs,if_pos rfl,r.sp,bs]
  by_cases hf:x.ffault=0
  ·obtain ⟨g,_,ns,hn,hl,_⟩:=r.gd hf
   have:=Kv5 g
   obtain ⟨_,h8,_⟩:=Ky2 h0
   refine .inr ⟨x,y,r,hf,h0,by rw [if_neg (by simp [hf])],?_,rfl⟩
   simp only
   rw [if_neg (by rw [r.fa]; simp [hf]),r.ty,Kq1 x.fty (by omega),bs,r.ne,Kq1 x.fneeds (by rw [hn,Ktf]; omega),bs]
  ·refine .inl ⟨by rw [if_pos (bne_iff_ne.2 hf)],?_,.inr ⟨x,y,r,hf⟩⟩
   simp only
   rw [if_pos (by rw [r.fa]; exact bne_iff_ne.2 hf)]
structure Ky6 (s:K00) (ctx:List (List Int)) (t:K02) (y:K03):Prop where
 ok:tOk (gN s.fSize true) (yN s.fSize true) ctx.length t=true
 cx:∀ q ∈ ctx,TyS s q
 bd:ctx.length + 2 * tsz t ≤ 1000000
 im:Kk2 (⟨s⟩,ctx,t)=some y
 fa:y.ffault=0
section
variable {s:K00} {n:Nat} (hs:Ktj s n) {ctx:List (List Int)} {t:K02} {y:K03}
include hs
theorem Ky6.tell (g:Ky6 s ctx t y):∃ x,Kws s n ctx t x y∧x.ffault=0∧x.fty=y.fty∧TyS s y.fty:=by
 obtain ⟨x,y',r⟩:=Ky0 hs (tsz t) t ctx (Nat.le_refl _) g.ok g.cx g.bd
 have e:=r.im
 rw [g.im] at e
 cases e
 have hf:x.ffault=0:=by rw [← r.fa]; exact g.fa
 exact ⟨x,r,hf,r.ty.symm,by rw [r.ty]; exact (r.gd hf).1⟩
theorem Ky6.kid (g:Ky6 s ctx t y) {i:Nat} {k:K02} (hk:t.fKids[i]?=some k):∃ yk,y.fkids[i]?=some yk∧Ky6 s (Kwq t i y.fkids ++ ctx) k yk∧(Kwq t i y.fkids).length=Kpj t.fOp i:=by
 obtain ⟨x,r,hf,_⟩:=g.tell hs
 obtain ⟨yk,h1,h2⟩:=(r.kd hf).2 i k hk
 obtain ⟨hi,hg⟩:=List.getElem?_eq_some_iff.1 hk
 have hm:k ∈ t.fKids:=hg ▸ List.getElem_mem hi
 have h3:=Krz t.fKids t.fOp ctx.length 0 i hi (Kpx g.ok).2
 rw [hg,Nat.zero_add] at h3
 have h4:=Krv hm
 have h5:=Kpk t.fOp (i:Int)
 have h6:=g.bd
 have h7:=h2.ln
 refine ⟨yk,h1,⟨?_,?_,?_,h2.im,h2.fa⟩,h7⟩
 ·rw [List.length_append,h7,Nat.add_comm]; exact h3
 ·intro q hq
  rcases List.mem_append.1 hq with hq | hq
  ·exact h2.ty q hq
  ·exact g.cx q hq
 ·rw [List.length_append,h7]; omega
theorem Ky6.first (g:Ky6 s ctx t y) (h0:0 < t.fKids.length) (ha:Kpj t.fOp ((0:Nat):Int)=0):∃ k0 y0 x0 l,t.fKids[0]?=some k0∧y.fkids=y0 :: l∧(Kws s n ctx k0 x0 y0∧x0.ffault=0)∧Kmu (s,ctx,k0)=some x0∧x0.fty=y0.fty∧TyS s y0.fty:=by
 have hk:t.fKids[0]?=some t.fKids[0]:=List.getElem?_eq_getElem h0
 obtain ⟨y0,h1,h2,h3⟩:=g.kid hs hk
 rw [ha] at h3
 rw [List.eq_nil_of_length_eq_zero h3,List.nil_append] at h2
 obtain ⟨x0,r,hf,h4,h5⟩:=h2.tell hs
 cases e:y.fkids with
 | nil=>rw [e] at h1; cases h1
 | cons z l =>
  rw [e] at h1
  cases h1
  exact ⟨_,_,x0,l,hk,rfl,⟨r,hf⟩,r.sp,h4,h5⟩
end
theorem Ky7 {α:Type} {l:List α} {i:Nat} {x:α} (h:l[i]?=some x):idx l (i:Int)=some x:=by
 unfold idx
 rw [if_pos (by omega)]
 simpa using h
def Gv {α:Type} (x:Option α) (Q:α→Prop):Prop:=∃ a,x=some a∧Q a
theorem Gv.of {α:Type} {a:α} {Q:α→Prop} (h:Q a):Gv (some a) Q:=⟨a,rfl,h⟩
theorem Gv.eq {α:Type} {x:Option α} {a:α} {Q:α→Prop} (e:x=some a) (h:Q a):Gv x Q:=⟨a,e,h⟩
theorem Gv.bind {α β:Type} {x:Option α} {f:α→Option β} {Q:α→Prop} {R:β→Prop} (h:Gv x Q) (hf:∀ a,Q a→Gv (f a) R):Gv (x >>= f) R:=by
 obtain ⟨a,rfl,hq⟩:=h
 exact hf a hq
theorem Gv.ite {α:Type} {b:Bool} {x y:Option α} {Q:α→Prop} (h1:b=true→Gv x Q) (h2:b=false→Gv y Q):Gv (if b=true then x else y) Q:=by
 cases b
 ·exact h2 rfl
 ·exact h1 rfl
structure Ky8 (c:K01):Prop where
 lo:0 ≤ c.fi
 hi:c.fi ≤ c.fb.length
 ln:c.fb.length ≤ 1048576
 by_:∀ v ∈ c.fb,0 ≤ v∧v ≤ 255
theorem Ky9 (x:Int):0 ≤ Q2l .and .i64 x 255∧Q2l .and .i64 x 255 ≤ 255:=by
 have h:(BitVec.ofInt 64 x &&& BitVec.ofInt 64 255).toNat ≤ 255:=by
  rw [BitVec.toNat_and]
  exact Nat.le_trans Nat.and_le_right (by decide)
 have e:Q2l .and .i64 x 255=wr (((BitVec.ofInt 64 x &&& BitVec.ofInt 64 255).toNat:Nat):Int):=rfl
 rw [e,Kmz (by omega) (by omega)]
 omega
theorem Kya {α:Type} {l:List α} {i:Int} (h0:0 ≤ i) (h:i < l.length):∃ v,idx l i=some v∧v ∈ l:=by
 have hi:i.toNat < l.length:=by omega
 refine ⟨l[i.toNat],?_,List.getElem_mem hi⟩
 unfold idx
 rw [if_pos h0,List.getElem?_eq_getElem hi]
theorem Kyb (code:List Int) (hl:code.length ≤ 1048576):∀ (k i:Nat) (h:Int),i + k=code.length→Gv (K7q (code,h,(i:Int))) (fun _=>True):=by
 intro k
 induction k with
 | zero =>
  intro i h hi
  rw [K7q.eq_def]
  simp only
  rw [Kn3 (by omega),if_neg (by decide),bs,if_neg (by decide)]
  exact .of trivial
 | succ k ih =>
  intro i h hi
  rw [K7q.eq_def]
  simp only
  rw [Kn2 (by omega),if_pos rfl,bs]
  refine .ite (fun _=>?_) (fun _=>.of trivial)
  rw [Kn0 (by omega),bs,Kn1 (by omega)]
  exact ih (i + 1) _ (by omega)
theorem Kyc (code:List Int) (hl:code.length ≤ 1048576) (hb:∀ v ∈ code,0 ≤ v∧v ≤ 255):Gv (K7t code) Ky8:=by
 unfold K7t
 refine Gv.bind (Kyb code hl code.length 0 _ (by omega)) (fun h _=>.of ⟨Int.le_refl _,?_,hl,hb⟩)
 simp
theorem Kyd {c:K01} (h:Ky8 c):Gv (K7w c) (fun r=>(0 ≤ r.1∧r.1 ≤ 255)∧Ky8 r.2):=by
 unfold K7w
 by_cases hi:c.fi < c.fb.length
 ·obtain ⟨v,e,hv⟩:=Kya h.lo hi
  have h3:=h.ln
  have h4:=h.lo
  rw [decide_eq_true hi,if_pos rfl,e,bs,bs]
  refine .of ⟨Ky9 _,⟨?_,?_,h.ln,h.by_⟩⟩
  ·simp only
   rw [Kmz (by omega) (by omega)]; omega
  ·simp only
   rw [Kmz (by omega) (by omega)]; omega
 ·rw [decide_eq_false hi,if_neg (by decide),bs]
  exact .of ⟨Ky9 _,⟨h.lo,h.hi,h.ln,h.by_⟩⟩
def Kye (n:Int) (x:Int):Prop:=(0 < n→0 ≤ x∧x < n)∧(n ≤ 0→x=0)
theorem Kyf {c:K01} (h:Ky8 c) (n:Int):Gv (K7z (c,n)) (fun r=>Kye n r.1∧Ky8 r.2):=by
 unfold K7z
 simp only
 refine .ite (fun hb=>?_) (fun hb=>?_)
 ·have hb:=of_decide_eq_true hb
  exact .of ⟨⟨fun h=>absurd h (by omega),fun _=>rfl⟩,h⟩
 have hb:=of_decide_eq_false hb
 have tm:∀ x:Int,0 ≤ x→Kye n (Int.tmod x n):=fun x hx=>⟨fun hn=>⟨Int.tmod_nonneg n hx,Int.tmod_lt_of_pos x hn⟩,fun hn=>absurd hn (by omega)⟩
 have ck:chk (n ≠ 0)=some ():=by unfold chk; rw [if_pos (by omega)]
 refine .ite (fun _=>?_) (fun _=>?_)
 ·refine Gv.bind (Kyd h) ?_
  rintro ⟨x,c1⟩ ⟨hx,h1⟩
  simp only at hx h1 ⊢
  rw [ck,bs]
  exact .of ⟨tm _ hx.1,h1⟩
 ·refine Gv.bind (Kyd h) ?_
  rintro ⟨x,c1⟩ ⟨hx,h1⟩
  simp only at hx h1 ⊢
  refine Gv.bind (Kyd h1) ?_
  rintro ⟨y,c2⟩ ⟨hy,h2⟩
  simp only at hy h2 ⊢
  refine Gv.bind (Kyd h2) ?_
  rintro ⟨z,c3⟩ ⟨hz,h3⟩
  simp only at hz h3 ⊢
  refine Gv.bind (Kyd h3) ?_
  rintro ⟨w,c4⟩ ⟨hw,h4⟩
  simp only at hw h4 ⊢
  rw [ck,bs]
  refine .of ⟨?_,h4⟩
  simp only
  have e1:wr (x * 16777216)=x * 16777216:=Kmz (by omega) (by omega)
  have e2:wr (y * 65536)=y * 65536:=Kmz (by omega) (by omega)
  have e3:wr (z * 256)=z * 256:=Kmz (by omega) (by omega)
  rw [e1,e2,e3,Kmz (x:=x * 16777216 + y * 65536) (by omega) (by omega),Kmz (x:=x * 16777216 + y * 65536 + z * 256) (by omega) (by omega),Kmz (x:=x * 16777216 + y * 65536 + z * 256 + w) (by omega) (by omega)]
  exact tm _ (by omega)
theorem Kyg {c:K01} (h:Ky8 c) (n:Int):Gv (Kbe (c,n)) (fun r=>Ky8 r.2):=by
 unfold Kbe
 refine Gv.bind (Kyf h n) ?_
 rintro ⟨x,c1⟩ ⟨_,h1⟩
 exact .of h1
theorem Kyh {c:K01} (h:Ky8 c) (l:List Int) (hl:0 < l.length):Gv (Kbh (c,l)) (fun r=>r.1 ∈ l∧Ky8 r.2):=by
 unfold Kbh
 refine Gv.bind (Kyf h _) ?_
 rintro ⟨x,c1⟩ ⟨⟨hx,_⟩,h1⟩
 simp only at hx h1 ⊢
 have:=hx (by omega)
 obtain ⟨v,e,hv⟩:=Kya this.1 this.2
 rw [e,bs]
 exact .of ⟨hv,h1⟩
theorem Kyi {c:K01} (h:Ky8 c):Gv (Kbk c) (fun r=>(-9223372036854775808 ≤ r.1∧r.1 ≤ 9223372036854775807)∧Ky8 r.2):=by
 unfold Kbk
 refine Gv.bind (Kyh h _ (by decide)) ?_
 rintro ⟨x,c1⟩ ⟨hx,h1⟩
 refine .of ⟨?_,h1⟩
 simp only [List.mem_cons,List.not_mem_nil,or_false] at hx
 simp only
 omega
def Kyj (n a b:Nat):Int:=((min (a + b) (n + 1):Nat):Int)
def Kyk (n a b:Nat):Int:=((min (a * b) (n + 1):Nat):Int)
def Kyl (n:Nat) (bd:Bool) (a b:Nat):Bool:=(a == b) || (b == n + 1) || (bd && decide (a ≤ b))
def Kym (n:Nat) (bd:Bool):K00:=⟨((n + 2:Nat):Int),(List.range' 0 (n + 2)).flatMap (fun a=>(List.range' 0 (n + 2)).map (Kyj n a)),(List.range' 0 (n + 2)).flatMap (fun a=>(List.range' 0 (n + 2)).map (Kyk n a)),(List.range' 0 (n + 2)).flatMap (fun a=>(List.range' 0 (n + 2)).map (Kyl n bd a))⟩
theorem Kyn {a b:Nat} (h:a ≤ b):decide ((a:Int) ≤ (b:Int))=true:=decide_eq_true (by omega)
theorem Kyo {a b:Nat} (h:b < a):decide ((a:Int) ≤ (b:Int))=false:=decide_eq_false (by omega)
theorem Kyp (n a:Nat) (bd:Bool) (hn:n ≤ 14) (ha:a ≤ n + 1):∀ (k b:Nat) (P T:List Int) (B:List Bool),b + k=n + 2→P.length ≤ 1000000→T.length ≤ 1000000→B.length ≤ 1000000→P.length + k ≤ 1000000→T.length + k ≤ 1000000→B.length + k ≤ 1000000 →
  K89 ((n:Int),bd,(a:Int),P,T,B,(b:Int))=some (P ++ (List.range' b k).map (Kyj n a),T ++ (List.range' b k).map (Kyk n a),B ++ (List.range' b k).map (Kyl n bd a)):=by
 intro k
 induction k with
 | zero =>
  intro b P T B hb _ _ _ _ _ _
  rw [K89.eq_def]
  simp only
  rw [Kn1 (by omega),Kyo (by omega),if_neg (by decide)]
  simp
 | succ k ih =>
  intro b P T B hb h1 h2 h3 h4 h5 h6
  have hab:a * b ≤ 16 * 16:=Nat.mul_le_mul (by omega) (by omega)
  have e2:wr ((a:Int) * (b:Int))=((a * b:Nat):Int):=by
   rw [← Int.natCast_mul,Kmz (by omega) (by omega)]
  rw [K89.eq_def]
  simp only
  rw [Kn1 (n:=n) (by omega),Kyn (by omega),if_pos rfl,Krn (by omega) (by omega),Kro,bs,e2,Kro,bs,Kpy (by simp; omega),bs,Kpy (by simp; omega),bs]
  have e3:((if ((a:Int) == (b:Int))=true then Qdq (B.length + [true].length) 1 >>= fun _=>some (B ++ [true]) else if ((b:Int) == ((n + 1:Nat):Int))=true then Qdq (B.length + [true].length) 1 >>= fun _=>some (B ++ [true]) else if bd=true then Qdq (B.length + [decide ((a:Int) ≤ (b:Int))].length) 1 >>= fun _=>some (B ++ [decide ((a:Int) ≤ (b:Int))]) else Qdq (B.length + [false].length) 1 >>= fun _=>some (B ++ [false])):Option (List Bool))=some (B ++ [Kyl n bd a b]):=by
   have f:∀ x:Bool,Qdq (B.length + [x].length) 1=some ():=fun x=>Kpy (by simp; omega)
   rw [f,f,f,bs,bs,bs,Kng,Kng]
   unfold Kyl
   by_cases q1:a=b
   ·rw [if_pos (by simp [q1])]; simp [q1]
   ·rw [if_neg (by simp [q1])]
    by_cases q2:b=n + 1
    ·rw [if_pos (by simp [q2])]; simp [q2]
    ·rw [if_neg (by simp [q2])]
     cases bd with
     | false=>simp [q1,q2]
     | true=>simp [q1,q2]
  rw [e3,bs,Kn1 (by omega),ih (b + 1) _ _ _ (by omega) (by simp; omega) (by simp; omega) (by simp; omega) (by simp; omega) (by simp; omega) (by simp; omega)]
  simp [List.range'_succ,Kyj,Kyk]
theorem Kyq (n:Nat) (bd:Bool) (hn:n ≤ 14):∀ (k a:Nat) (P T:List Int) (B:List Bool),a + k=n + 2→P.length + k * 16 ≤ 10000→T.length + k * 16 ≤ 10000→B.length + k * 16 ≤ 10000 →
  K8d ((n:Int),bd,P,T,B,(a:Int))=some (P ++ (List.range' a k).flatMap (fun a=>(List.range' 0 (n + 2)).map (Kyj n a)),T ++ (List.range' a k).flatMap (fun a=>(List.range' 0 (n + 2)).map (Kyk n a)),B ++ (List.range' a k).flatMap (fun a=>(List.range' 0 (n + 2)).map (Kyl n bd a))):=by
 intro k
 induction k with
 | zero =>
  intro a P T B hb _ _ _
  rw [K8d.eq_def]
  simp only
  rw [Kn1 (by omega),Kyo (by omega),if_neg (by decide)]
  simp
 | succ k ih =>
  intro a P T B hb h1 h2 h3
  rw [K8d.eq_def]
  simp only
  rw [Kn1 (n:=n) (by omega),Kyn (by omega),if_pos rfl,show (0:Int)=((0:Nat):Int) from rfl,Kyp n a bd hn (by omega) (n + 2) 0 P T B (by omega) (by omega) (by omega) (by omega) (by omega) (by omega) (by omega),bs]
  simp only
  rw [Kn1 (by omega),ih (a + 1) _ _ _ (by omega) (by simp; omega) (by simp; omega) (by simp; omega)]
  simp [List.range'_succ,List.flatMap_cons]
theorem Kyr (n:Nat) (bd:Bool) (h1:1 ≤ n) (h2:n ≤ 14):K8g ((n:Int),bd)=some (Kym n bd):=by
 unfold K8g
 simp only
 rw [sIn,bs,show inB (n:Int) 1 14=true from by unfold inB; rw [decide_eq_true (by omega),decide_eq_true (by omega)]; rfl,if_pos rfl,show (0:Int)=((0:Nat):Int) from rfl,Kyq n bd h2 (n + 2) 0 [] [] [] (by omega) (by simp; omega) (by simp; omega) (by simp; omega),bs]
 simp only
 rw [show wr ((n:Int) + 2)=((n + 2:Nat):Int) from by rw [Kmz (by omega) (by omega)]; omega]
 rfl
theorem Kys (n:Nat) (h1:1 ≤ n) (h2:n ≤ 14):K8m (n:Int)=some (Kym n false):=by unfold K8m; rw [Kyr n false h1 h2]; rfl
theorem Kyt (n:Nat) (h1:1 ≤ n) (h2:n ≤ 14):K8j (n:Int)=some (Kym n true):=by unfold K8j; rw [Kyr n true h1 h2]; rfl
def Kyu (n a:Nat):Nat:=(n + 1 - a) % (n + 1)
def Kyv (n a b:Nat):Int:=(((n + 1 - max (Kyu n a) (Kyu n b)) % (n + 1):Nat):Int)
def Kyw (n a b:Nat):Int:=(((n + 1 - min (Kyu n a) (Kyu n b)) % (n + 1):Nat):Int)
def Kyx (n a b:Nat):Bool:=decide (Kyu n a ≤ Kyu n b)
def Kyy (n:Nat):K00:=⟨((n + 1:Nat):Int),(List.range' 0 (n + 1)).flatMap (fun a=>(List.range' 0 (n + 1)).map (Kyv n a)),(List.range' 0 (n + 1)).flatMap (fun a=>(List.range' 0 (n + 1)).map (Kyw n a)),(List.range' 0 (n + 1)).flatMap (fun a=>(List.range' 0 (n + 1)).map (Kyx n a))⟩
theorem Kyz (a b:Nat):K8p ((a:Int),(b:Int))=some ((max a b:Nat):Int):=by
 unfold K8p
 simp only
 by_cases h:b < a
 ·rw [decide_eq_true (by omega),if_pos rfl,Nat.max_eq_left (by omega)]
 ·rw [decide_eq_false (by omega),if_neg (by decide),Nat.max_eq_right (by omega)]
theorem Kz0 (a b:Nat):Int.tmod (a:Int) (b:Int)=((a % b:Nat):Int):=(Int.ofNat_tmod a b).symm
theorem Kz1 (n a:Nat) (hn:n ≤ 1000) (ha:a ≤ n + 1):Int.tmod (wr (((n + 1:Nat):Int) - (a:Int))) ((n + 1:Nat):Int)=(((n + 1 - a) % (n + 1):Nat):Int):=by
 rw [Kmz (by omega) (by omega),show ((n + 1:Nat):Int) - (a:Int)=((n + 1 - a:Nat):Int) from by omega,Kz0]
theorem Kz2 (n a:Nat):Kyu n a ≤ n:=by
 have:=Nat.mod_lt (n + 1 - a) (show 0 < n + 1 by omega)
 unfold Kyu
 omega
theorem Kz3 (n a:Nat) (hn:n ≤ 15) (ha:a ≤ n):∀ (k b:Nat) (P T:List Int) (B:List Bool),b + k=n + 1→P.length + k ≤ 1000000→T.length + k ≤ 1000000→B.length + k ≤ 1000000 →
  K8t ((n:Int),(a:Int),P,T,B,(b:Int))=some (P ++ (List.range' b k).map (Kyv n a),T ++ (List.range' b k).map (Kyw n a),B ++ (List.range' b k).map (Kyx n a)):=by
 intro k
 induction k with
 | zero =>
  intro b P T B hb _ _ _
  rw [K8t.eq_def]
  simp only
  rw [Kyo (by omega),if_neg (by decide)]
  simp
 | succ k ih =>
  intro b P T B hb h4 h5 h6
  have ck:chk (((n + 1:Nat):Int) ≠ 0)=some ():=by unfold chk; rw [if_pos (by omega)]
  have m1:=Kz2 n a
  have m2:=Kz2 n b
  have x1:Int.tmod (wr (((n + 1:Nat):Int) - (a:Int))) ((n + 1:Nat):Int)=((Kyu n a:Nat):Int):=Kz1 n a (by omega) (by omega)
  have x2:Int.tmod (wr (((n + 1:Nat):Int) - (b:Int))) ((n + 1:Nat):Int)=((Kyu n b:Nat):Int):=Kz1 n b (by omega) (by omega)
  rw [K8t.eq_def]
  simp only
  rw [Kyn (by omega),if_pos rfl,Kn1 (n:=n) (by omega),ck,bs,bs,x1,x2,Kyz,bs,bs,Kro,bs,bs,Kz1 n _ (by omega) (by omega),Kz1 n _ (by omega) (by omega),Kpy (by simp; omega),bs,Kpy (by simp; omega),bs,Kpy (by simp; omega),bs,Kn1 (by omega),ih (b + 1) _ _ _ (by omega) (by simp; omega) (by simp; omega) (by simp; omega)]
  simp [List.range'_succ,Kyv,Kyw,Kyx]
theorem Kz4 (n:Nat) (hn:n ≤ 15):∀ (k a:Nat) (P T:List Int) (B:List Bool),a + k=n + 1→P.length + k * 16 ≤ 10000→T.length + k * 16 ≤ 10000→B.length + k * 16 ≤ 10000 →
  K8x ((n:Int),P,T,B,(a:Int))=some (P ++ (List.range' a k).flatMap (fun a=>(List.range' 0 (n + 1)).map (Kyv n a)),T ++ (List.range' a k).flatMap (fun a=>(List.range' 0 (n + 1)).map (Kyw n a)),B ++ (List.range' a k).flatMap (fun a=>(List.range' 0 (n + 1)).map (Kyx n a))):=by
 intro k
 induction k with
 | zero =>
  intro a P T B hb _ _ _
  rw [K8x.eq_def]
  simp only
  rw [Kyo (by omega),if_neg (by decide)]
  simp
 | succ k ih =>
  intro a P T B hb h1 h2 h3
  rw [K8x.eq_def]
  simp only
  rw [Kyn (by omega),if_pos rfl,show (0:Int)=((0:Nat):Int) from rfl,Kz3 n a hn (by omega) (n + 1) 0 P T B (by omega) (by omega) (by omega) (by omega),bs]
  simp only
  rw [Kn1 (by omega),ih (a + 1) _ _ _ (by omega) (by simp; omega) (by simp; omega) (by simp; omega)]
  simp [List.range'_succ,List.flatMap_cons]
theorem Kz5 (n:Nat) (h1:1 ≤ n) (h2:n ≤ 15):K90 (n:Int)=some (Kyy n):=by
 unfold K90
 rw [sIn,bs,show inB (n:Int) 1 15=true from by unfold inB; rw [decide_eq_true (by omega),decide_eq_true (by omega)]; rfl,if_pos rfl,show (0:Int)=((0:Nat):Int) from rfl,Kz4 n h2 (n + 1) 0 [] [] [] (by omega) (by simp; omega) (by simp; omega) (by simp; omega),bs]
 simp only
 rw [Kn1 (by omega)]
 rfl
def Kz6 (n g:Nat):Nat:=if g=0 then 0 else if g=1 then 1 else if g ≤ n + 1 then (g - 1) / n else g / n
def Kz7 (n g:Nat):Nat:=if g < 2 then g else if g ≤ n + 1 then (g - 1) % n else g % n
def Kz8 (n x y:Nat):Nat:=if x * n + y=0 then 0 else if x * n + y=n + 1 then 1 else if x * n + y < n + 1 then x * n + y + 1 else x * n + y
theorem Kz9 (a b:Nat):Int.tdiv (a:Int) (b:Int)=((a / b:Nat):Int):=(Int.ofNat_tdiv a b).symm
theorem Kza (n g:Nat) (hn:1 ≤ n) (hn2:n ≤ 100) (hg:g ≤ 1000):Kar ((n:Int),(g:Int))=some ((Kz6 n g:Nat):Int):=by
 have ck:chk ((n:Int) ≠ 0)=some ():=by unfold chk; rw [if_pos (by omega)]
 have hd:∀ x,x ≤ 1000→x / n ≤ 1000:=fun x hx=>Nat.le_trans (Nat.div_le_self _ _) hx
 unfold Kar Kz6
 simp only
 by_cases h0:g=0
 ·rw [if_pos (by simp [h0]),if_pos h0]; rfl
 rw [if_neg (by simpa using h0),if_neg h0]
 by_cases h1:g=1
 ·rw [if_pos (by simp [h1]),if_pos h1]; rfl
 rw [if_neg (by simp; omega),if_neg h1,Kn1 (by omega)]
 by_cases h2:g ≤ n + 1
 ·rw [Kyn h2,if_pos rfl,if_pos h2,ck,bs,Kmz (x:=(g:Int) - 1) (by omega) (by omega),show (g:Int) - 1=((g - 1:Nat):Int) from by omega,Kz9]
  have:=hd (g - 1) (by omega)
  generalize (g - 1) / n=q at *
  rw [Kmz (by omega) (by omega)]
 ·rw [Kyo (by omega),if_neg (by decide),if_neg h2,ck,bs,Kz9]
  have:=hd g hg
  generalize g / n=q at *
  rw [Kmz (by omega) (by omega)]
theorem Kzb (n g:Nat) (hn:1 ≤ n) (hn2:n ≤ 100) (hg:g ≤ 1000):Kau ((n:Int),(g:Int))=some ((Kz7 n g:Nat):Int):=by
 have ck:chk ((n:Int) ≠ 0)=some ():=by unfold chk; rw [if_pos (by omega)]
 unfold Kau Kz7
 simp only
 by_cases h0:g < 2
 ·rw [decide_eq_true (by omega),if_pos rfl,if_pos h0]
 rw [decide_eq_false (by omega),if_neg (by decide),if_neg h0,Kn1 (by omega)]
 by_cases h2:g ≤ n + 1
 ·rw [Kyn h2,if_pos rfl,if_pos h2,ck,bs,Kmz (x:=(g:Int) - 1) (by omega) (by omega),show (g:Int) - 1=((g - 1:Nat):Int) from by omega,Kz0]
 ·rw [Kyo (by omega),if_neg (by decide),if_neg h2,ck,bs,Kz0]
theorem Kzc (n x y:Nat) (hn:n ≤ 100) (hx:x ≤ 100) (hy:y ≤ 100):Kax ((n:Int),(x:Int),(y:Int))=some ((Kz8 n x y:Nat):Int):=by
 have hxn:x * n ≤ 100 * 100:=Nat.mul_le_mul hx hn
 have e:wr (wr ((x:Int) * (n:Int)) + (y:Int))=((x * n + y:Nat):Int):=by
  rw [← Int.natCast_mul,Kmz (x:=((x * n:Nat):Int)) (by omega) (by omega),Kmz (by omega) (by omega)]; omega
 unfold Kax Kz8
 simp only
 rw [e,Kn1 (n:=n) (by omega)]
 by_cases h0:x * n + y=0
 ·rw [if_pos (by rw [h0]; rfl),if_pos h0]; rfl
 rw [if_neg (by simp; omega),if_neg h0]
 by_cases h1:x * n + y=n + 1
 ·rw [if_pos (by rw [h1]; simp),if_pos h1]; rfl
 rw [if_neg (by simp; omega),if_neg h1]
 by_cases h2:x * n + y < n + 1
 ·rw [Kn2 h2,if_pos rfl,if_pos h2,Kn1 (by omega)]
 ·rw [Kn3 (by omega),if_neg (by decide),if_neg h2]
theorem Kzd {m n g:Nat} (hm:2 ≤ m) (hn:2 ≤ n) (h:g < m * n):Kz6 n g < m:=by
 unfold Kz6
 split
 ·omega
 split
 ·omega
 split
 ·refine Nat.div_lt_of_lt_mul ?_
  rw [Nat.mul_comm]; omega
 ·exact Nat.div_lt_of_lt_mul (by rw [Nat.mul_comm]; exact h)
theorem Kze {n g:Nat} (hn:2 ≤ n):Kz7 n g < n:=by
 unfold Kz7
 split
 ·omega
 split
 ·exact Nat.mod_lt _ (by omega)
 ·exact Nat.mod_lt _ (by omega)
def Kzf (a b:K00) (m n g h:Nat):Int:=((Kz8 n (pl a m (Kz6 n g) (Kz6 n h)) (pl b n (Kz7 n g) (Kz7 n h)):Nat):Int)
def Kzg (a b:K00) (m n g h:Nat):Int:=((Kz8 n (ti a m (Kz6 n g) (Kz6 n h)) (ti b n (Kz7 n g) (Kz7 n h)):Nat):Int)
def Kzh (a b:K00) (m n g h:Nat):Bool:=le a m (Kz6 n g) (Kz6 n h) && le b n (Kz7 n g) (Kz7 n h)
def Kzi (a b:K00) (m n:Nat):K00:=⟨((m * n:Nat):Int),(List.range' 0 (m * n)).flatMap (fun g=>(List.range' 0 (m * n)).map (Kzf a b m n g)),(List.range' 0 (m * n)).flatMap (fun g=>(List.range' 0 (m * n)).map (Kzg a b m n g)),(List.range' 0 (m * n)).flatMap (fun g=>(List.range' 0 (m * n)).map (Kzh a b m n g))⟩
theorem Kzj {m n:Nat} (hm:2 ≤ m) (hn:2 ≤ n) (hmn:m * n ≤ 16):m ≤ 16∧n ≤ 16:=⟨Nat.le_trans (Nat.le_mul_of_pos_right m (by omega)) hmn,Nat.le_trans (Nat.le_mul_of_pos_left n (by omega)) hmn⟩
section
variable {a b:K00} {m n:Nat} (ta:Tab a m) (tb:Tab b n) (hm:2 ≤ m) (hn:2 ≤ n) (hmn:m * n ≤ 16)
include ta tb hm hn hmn
theorem Kzk {g:Nat} (hg:g < m * n):∀ (k h:Nat) (P T:List Int) (B:List Bool),h + k=m * n→P.length + k ≤ 1000000→T.length + k ≤ 1000000→B.length + k ≤ 1000000 →
  Kb1 (a,b,(g:Int),P,T,B,(h:Int))=some (P ++ (List.range' h k).map (Kzf a b m n g),T ++ (List.range' h k).map (Kzg a b m n g),B ++ (List.range' h k).map (Kzh a b m n g)):=by
 obtain ⟨hm16,hn16⟩:=Kzj hm hn hmn
 have hN:wr (a.fSize * b.fSize)=((m * n:Nat):Int):=by
  rw [ta.size,tb.size,← Int.natCast_mul,Kmz (by omega) (by omega)]
 intro k
 induction k with
 | zero =>
  intro h P T B hb _ _ _
  rw [Kb1.eq_def]
  simp only
  rw [hN,Kn3 (by omega),if_neg (by decide)]
  simp
 | succ k ih =>
  intro h P T B hb h4 h5 h6
  have f1:=Kzd hm hn hg
  have f2:=Kzd hm hn (show h < m * n by omega)
  have s1:Kz7 n g < n:=Kze hn
  have s2:Kz7 n h < n:=Kze hn
  have p1:=Kn7 ta f1 f2
  have p2:=Kn7 tb s1 s2
  have t1:=Kn8 ta f1 f2
  have t2:=Kn8 tb s1 s2
  rw [Kb1.eq_def]
  simp only
  rw [hN,Kn2 (by omega),if_pos rfl,tb.size,Kza n g (by omega) (by omega) (by omega),bs,Kzb n g (by omega) (by omega) (by omega),bs,Kza n h (by omega) (by omega) (by omega),bs,Kzb n h (by omega) (by omega) (by omega),bs,
   Knc ta f1 f2,bs,Knc tb s1 s2,bs,Kzc n _ _ (by omega) (by omega) (by omega),bs,Kpy (by simp; omega),bs,Knd ta f1 f2,bs,Knd tb s1 s2,bs,Kzc n _ _ (by omega) (by omega) (by omega),bs,Kpy (by simp; omega),bs,sLe ta f1 f2,bs,sLe tb s1 s2,bs]
  have f:∀ x:Bool,Qdq (B.length + [x].length) 1=some ():=fun x=>Kpy (by simp; omega)
  have e3:((if le a m (Kz6 n g) (Kz6 n h)=true then Qdq (B.length + [le b n (Kz7 n g) (Kz7 n h)].length) 1 >>= fun _=>some (B ++ [le b n (Kz7 n g) (Kz7 n h)]) else Qdq (B.length + [false].length) 1 >>= fun _=>some (B ++ [false])):Option (List Bool))=some (B ++ [Kzh a b m n g h]):=by
   rw [f,f,bs,bs]
   unfold Kzh
   cases le a m (Kz6 n g) (Kz6 n h) <;> rfl
  rw [e3,bs,Kn1 (by omega),ih (h + 1) _ _ _ (by omega) (by simp; omega) (by simp; omega) (by simp; omega)]
  simp [List.range'_succ,Kzf,Kzg]
theorem Kzl:∀ (k g:Nat) (P T:List Int) (B:List Bool),g + k=m * n→P.length + k * 16 ≤ 10000→T.length + k * 16 ≤ 10000→B.length + k * 16 ≤ 10000 →
  Kb5 (a,b,P,T,B,(g:Int))=some (P ++ (List.range' g k).flatMap (fun g=>(List.range' 0 (m * n)).map (Kzf a b m n g)),T ++ (List.range' g k).flatMap (fun g=>(List.range' 0 (m * n)).map (Kzg a b m n g)),B ++ (List.range' g k).flatMap (fun g=>(List.range' 0 (m * n)).map (Kzh a b m n g))):=by
 have hN:wr (a.fSize * b.fSize)=((m * n:Nat):Int):=by
  rw [ta.size,tb.size,← Int.natCast_mul,Kmz (by omega) (by omega)]
 intro k
 induction k with
 | zero =>
  intro g P T B hb _ _ _
  rw [Kb5.eq_def]
  simp only
  rw [hN,Kn3 (by omega),if_neg (by decide)]
  simp
 | succ k ih =>
  intro g P T B hb h1 h2 h3
  rw [Kb5.eq_def]
  simp only
  rw [hN,Kn2 (by omega),if_pos rfl,show (0:Int)=((0:Nat):Int) from rfl,Kzk ta tb hm hn hmn (by omega) (m * n) 0 P T B (by omega) (by omega) (by omega) (by omega),bs]
  simp only
  rw [Kn1 (by omega),ih (g + 1) _ _ _ (by omega) (by simp; omega) (by simp; omega) (by simp; omega)]
  simp [List.range'_succ,List.flatMap_cons]
theorem Kzm (sa:Kqc a=true) (sb:Kqc b=true):Kb8 (a,b)=some (Kzi a b m n,true):=by
 have hN:wr (a.fSize * b.fSize)=((m * n:Nat):Int):=by
  rw [ta.size,tb.size,← Int.natCast_mul,Kmz (by omega) (by omega)]
 unfold Kb8 Kao
 simp only
 rw [Kqe,Kqe,bs,sa,if_pos rfl,bs,sb,if_pos rfl,bs,hN,decide_eq_true (by omega),bs,if_pos rfl,show (0:Int)=((0:Nat):Int) from rfl,Kzl ta tb hm hn hmn (m * n) 0 [] [] [] (by omega) (by simp; omega) (by simp; omega) (by simp; omega),bs]
 rfl
end
def Kzn:K00:=⟨3,[0,1,2,1,2,2,2,2,2],[0,0,0,0,1,2,0,2,2],[true,true,true,false,true,true,false,false,true]⟩
def Kzo:K00:=⟨4,[0,1,2,3,1,2,3,3,2,3,3,3,3,3,3,3],[0,0,0,0,0,1,2,3,0,2,3,3,0,3,3,3],[true,true,true,true,false,true,true,true,false,false,true,true,false,false,false,true]⟩
def Kzp:K00:=⟨5,[0,1,2,3,4,1,2,3,4,4,2,3,4,4,4,3,4,4,4,4,4,4,4,4,4],[0,0,0,0,0,0,1,2,3,4,0,2,4,4,4,0,3,4,4,4,0,4,4,4,4],[true,true,true,true,true,false,true,true,true,true,false,false,true,true,true,false,false,false,true,true,false,false,false,false,true]⟩
def Kzq:K00:=⟨3,[0,1,2,1,2,2,2,2,2],[0,0,0,0,1,2,0,2,2],[true,false,true,false,true,true,false,false,true]⟩
def Kzr:K00:=⟨4,[0,1,2,3,1,2,3,3,2,3,3,3,3,3,3,3],[0,0,0,0,0,1,2,3,0,2,3,3,0,3,3,3],[true,false,false,true,false,true,false,true,false,false,true,true,false,false,false,true]⟩
def Kzs:K00:=⟨5,[0,1,2,3,4,1,2,3,4,4,2,3,4,4,4,3,4,4,4,4,4,4,4,4,4],[0,0,0,0,0,0,1,2,3,4,0,2,4,4,4,0,3,4,4,4,0,4,4,4,4],[true,false,false,false,true,false,true,false,false,true,false,false,true,false,true,false,false,false,true,true,false,false,false,false,true]⟩
def Kzt:K00:=⟨2,[0,1,1,1],[0,0,0,1],[true,true,false,true]⟩
def Kzu:K00:=⟨3,[0,1,2,1,1,1,2,1,2],[0,0,0,0,1,2,0,2,2],[true,true,true,false,true,false,false,true,true]⟩
def Kzv:K00:=⟨4,[0,1,2,3,1,1,1,1,2,1,2,2,3,1,2,3],[0,0,0,0,0,1,2,3,0,2,2,3,0,3,3,3],[true,true,true,true,false,true,false,false,false,true,true,false,false,true,true,true]⟩
def Kzw:K00:=⟨6,[0,1,2,3,4,5,1,5,1,5,5,5,2,1,2,1,5,5,3,5,1,4,4,5,4,5,5,4,4,5,5,5,5,5,5,5],[0,0,0,0,0,0,0,1,2,3,4,5,0,2,2,0,0,2,0,3,0,3,4,4,0,4,0,4,4,4,0,5,2,4,4,5],[true,false,true,false,true,true,false,true,false,false,false,true,false,false,true,false,false,true,false,true,false,true,true,true,false,false,false,false,true,true,false,false,false,false,false,true]⟩
def Kzx:K00:=⟨9,[0,1,2,3,4,5,6,7,8,1,7,1,1,7,7,7,7,7,2,1,2,2,1,1,7,7,7,3,1,2,3,5,5,8,7,8,4,7,1,5,6,8,6,7,8,5,7,1,5,8,8,8,7,8,6,7,7,8,6,8,6,7,8,7,7,7,7,7,7,7,7,7,8,7,7,8,8,8,8,7,8],[0,0,0,0,0,0,0,0,0,0,1,2,3,4,5,6,7,8,0,2,2,3,0,3,0,2,3,0,3,3,3,0,3,0,3,3,0,4,0,0,4,4,6,6,6,0,5,3,3,4,5,6,8,8,0,6,0,0,6,6,6,6,6,0,7,2,3,6,8,6,7,8,0,8,3,3,6,8,6,8,8],[true,false,true,true,false,false,true,true,true,false,true,false,false,false,false,false,true,false,false,false,true,false,false,false,false,true,false,false,false,true,true,false,false,false,true,true,false,true,false,false,true,true,true,true,true,false,true,false,false,false,true,false,true,true,false,false,false,false,false,false,true,true,true,false,false,false,false,false,false,false,true,false,false,false,false,false,false,false,false,true,true]⟩
theorem Kzy:Kym 1 true=Kzn:=by kernel_rfl
theorem Kzz:Kqc Kzn=true:=by kernel_rfl
theorem V00:Kym 2 true=Kzo:=by kernel_rfl
theorem V01:Kqc Kzo=true:=by kernel_rfl
theorem V02:Kym 3 true=Kzp:=by kernel_rfl
theorem V03:Kqc Kzp=true:=by kernel_rfl
theorem V04:Kym 1 false=Kzq:=by kernel_rfl
theorem V05:Kqc Kzq=true:=by kernel_rfl
theorem V06:Kym 2 false=Kzr:=by kernel_rfl
theorem V07:Kqc Kzr=true:=by kernel_rfl
theorem V08:Kym 3 false=Kzs:=by kernel_rfl
theorem V09:Kqc Kzs=true:=by kernel_rfl
theorem V0a:Kyy 1=Kzt:=by kernel_rfl
theorem V0b:Kqc Kzt=true:=by kernel_rfl
theorem V0c:Kyy 2=Kzu:=by kernel_rfl
theorem V0d:Kqc Kzu=true:=by kernel_rfl
theorem V0e:Kyy 3=Kzv:=by kernel_rfl
theorem V0f:Kqc Kzv=true:=by kernel_rfl
theorem V0g:Kzi Kzq Kzt 3 2=Kzw:=by kernel_rfl
theorem V0h:Kqc Kzw=true:=by kernel_rfl
theorem V0i:Kzi Kzq Kzu 3 3=Kzx:=by kernel_rfl
theorem V0j:Kqc Kzx=true:=by kernel_rfl
def V0k:List K00:=[Kzn,Kzo,Kzp,Kzq,Kzr,Kzs,Kzt,Kzu,Kzv,Kzw,Kzx]
theorem V0l {s:K00} (h:s ∈ V0k):Kqc s=true∧(2 ≤ s.fSize∧s.fSize ≤ 9)∧sms s ≤ 300:=by
 simp only [V0k,List.mem_cons,List.not_mem_nil,or_false] at h
 rcases h with rfl | rfl | rfl | rfl | rfl | rfl | rfl | rfl | rfl | rfl | rfl
 ·exact ⟨Kzz,by decide,by decide⟩
 ·exact ⟨V01,by decide,by decide⟩
 ·exact ⟨V03,by decide,by decide⟩
 ·exact ⟨V05,by decide,by decide⟩
 ·exact ⟨V07,by decide,by decide⟩
 ·exact ⟨V09,by decide,by decide⟩
 ·exact ⟨V0b,by decide,by decide⟩
 ·exact ⟨V0d,by decide,by decide⟩
 ·exact ⟨V0f,by decide,by decide⟩
 ·exact ⟨V0h,by decide,by decide⟩
 ·exact ⟨V0j,by decide,by decide⟩
theorem V0m (x:Int) (h:Kye 3 x):x=0∨x=1∨x=2:=by
 have:=h.1 (by decide)
 omega
theorem V0n {x:Int} (h:Kye 3 x):Gv (K8j (wr (1 + x))) (fun s=>s ∈ V0k):=by
 rcases V0m x h with rfl | rfl | rfl
 ·exact .eq (Kyt 1 (by decide) (by decide)) (by rw [Kzy]; simp [V0k])
 ·exact .eq (Kyt 2 (by decide) (by decide)) (by rw [V00]; simp [V0k])
 ·exact .eq (Kyt 3 (by decide) (by decide)) (by rw [V02]; simp [V0k])
theorem V0o {x:Int} (h:Kye 3 x):Gv (K8m (wr (1 + x))) (fun s=>s ∈ V0k):=by
 rcases V0m x h with rfl | rfl | rfl
 ·exact .eq (Kys 1 (by decide) (by decide)) (by rw [V04]; simp [V0k])
 ·exact .eq (Kys 2 (by decide) (by decide)) (by rw [V06]; simp [V0k])
 ·exact .eq (Kys 3 (by decide) (by decide)) (by rw [V08]; simp [V0k])
theorem V0p {x:Int} (h:Kye 3 x):Gv (K90 (wr (1 + x))) (fun s=>s ∈ V0k):=by
 rcases V0m x h with rfl | rfl | rfl
 ·exact .eq (Kz5 1 (by decide) (by decide)) (by rw [V0a]; simp [V0k])
 ·exact .eq (Kz5 2 (by decide) (by decide)) (by rw [V0c]; simp [V0k])
 ·exact .eq (Kz5 3 (by decide) (by decide)) (by rw [V0e]; simp [V0k])
theorem V0q {c:K01} (h:Ky8 c):Gv (Kbb c) (fun r=>r.1 ∈ V0k∧Ky8 r.2):=by
 unfold Kbb
 refine Gv.bind (Kyf h 3) ?_
 rintro ⟨x,c1⟩ ⟨hx,h1⟩
 simp only at hx h1 ⊢
 refine Gv.bind (V0n hx) (fun s0 hs0=>?_)
 refine Gv.bind (Kyf h1 8) ?_
 rintro ⟨y,c2⟩ ⟨hy,h2⟩
 simp only at hy h2 ⊢
 have fin:∀ (R:Int × List Int × List Int × List Bool × List Int × Int × Int→Prop),True:=fun _=>trivial
 refine Gv.bind (Q:=fun _=>True) (.ite (fun _=>.of trivial) (fun _=>Gv.bind (Q:=fun _=>True) (.ite (fun _=>.of trivial) (fun _=>.of trivial)) (fun _ _=>.of trivial))) (fun j5 _=>?_)
 refine Gv.bind (Q:=fun r:Int × List Int × List Int × List Bool × List Int × Int × Int=>(⟨r.1,r.2.1,r.2.2.1,r.2.2.2.1⟩:K00) ∈ V0k∧Ky8 ⟨r.2.2.2.2.1,r.2.2.2.2.2.1,r.2.2.2.2.2.2⟩) (.ite (fun _=>?_) (fun _=>?_)) ?_
 ·exact Gv.bind (V0o hx) (fun s hs=>.of ⟨hs,h2⟩)
 ·refine Gv.bind (Q:=fun _=>True) (.ite (fun _=>.of trivial) (fun _=>.of trivial)) (fun j9 _=>?_)
  refine Gv.bind (Q:=fun r:Int × List Int × List Int × List Bool × List Int × Int × Int=>(⟨r.1,r.2.1,r.2.2.1,r.2.2.2.1⟩:K00) ∈ V0k∧Ky8 ⟨r.2.2.2.2.1,r.2.2.2.2.2.1,r.2.2.2.2.2.2⟩) (.ite (fun _=>?_) (fun _=>?_)) (by rintro ⟨a,b,d,e,f,g,i⟩ q; exact .of q)
  ·exact Gv.bind (V0p hx) (fun s hs=>.of ⟨hs,h2⟩)
  ·refine Gv.bind (Q:=fun r:Int × List Int × List Int × List Bool × List Int × Int × Int=>(⟨r.1,r.2.1,r.2.2.1,r.2.2.2.1⟩:K00) ∈ V0k∧Ky8 ⟨r.2.2.2.2.1,r.2.2.2.2.2.1,r.2.2.2.2.2.2⟩) (.ite (fun _=>?_) (fun _=>.of ⟨hs0,h2⟩)) (by rintro ⟨a,b,d,e,f,g,i⟩ q; exact .of q)
   rw [show (1:Int)=((1:Nat):Int) from rfl,Kys 1 (by decide) (by decide),V04,bs]
   refine Gv.bind (Kyf h2 2) ?_
   rintro ⟨z,c3⟩ ⟨hz,h3⟩
   simp only at hz h3 ⊢
   have hz:=hz.1 (by decide)
   have t3:Tab Kzq 3:=Kqd V05
   rcases (show z=0∨z=1 by omega) with rfl | rfl
   ·have e:wr (((1:Nat):Int) + 0)=((1:Nat):Int):=rfl
    rw [e,Kz5 1 (by decide) (by decide),V0a,bs,Kzm (m:=3) (n:=2) t3 (Kqd V0b) (by decide) (by decide) (by decide) V05 V0b,V0g,bs]
    exact .of ⟨by simp [V0k],h3⟩
   ·have e:wr (((1:Nat):Int) + 1)=((2:Nat):Int):=rfl
    rw [e,Kz5 2 (by decide) (by decide),V0c,bs,Kzm (m:=3) (n:=3) t3 (Kqd V0d) (by decide) (by decide) (by decide) V05 V0d,V0i,bs]
    exact .of ⟨by simp [V0k],h3⟩
 ·rintro ⟨a,b,d,e,f,g,i⟩ q
  exact .of q
inductive Cl:Ty→K02→Prop where
 | num (N:Int) (h:0 ≤ N∧N ≤ 2):Cl .num ⟨1,N,[],[]⟩
 | pair {a b:Ty} {k m:K02} (h1:Cl a k) (h2:Cl b m):Cl (.bin 1 a b) ⟨4,0,[],[k,m]⟩
 | left {a b:Ty} {k:K02} (h1:Cl a k):Cl (.bin 2 a b) ⟨6,0,b.code,[k]⟩
 | right {a b:Ty} {k:K02} (h1:Cl b k):Cl (.bin 2 a b) ⟨7,0,a.code,[k]⟩
 | fn {c:Int} {a b:Ty} {k:K02} (hc:Ko7 c=true) (h1:Cl b k):Cl (.bin c a b) ⟨9,Kou c,a.code,[k]⟩
 | box {c:Int} {a:Ty} {k:K02} (hc:Ko8 c=true) (h1:Cl a k):Cl (.un c a) ⟨11,Kou c,[],[k]⟩
theorem V0r (T:Ty):T.ok→Cl T (dfl T):=by
 induction T with
 | num=>intro _; exact .num 0 (by decide)
 | bin c a b iha ihb =>
  intro h
  rw [dfl]
  rcases Ks0 h.1 with ⟨rfl,_⟩ | ⟨rfl,_⟩ | ⟨h0,_,h2,_⟩
  ·rw [if_pos rfl]; exact .pair (iha h.2.1) (ihb h.2.2)
  ·rw [if_neg (by decide),if_pos rfl]; exact .left (iha h.2.1)
  ·rw [if_neg h0.2.1,if_neg h0.2.2]; exact .fn h2 (ihb h.2.2)
 | un c a ih =>
  intro h
  rw [dfl]
  exact .box (Ks1 h.1).2.1 (ih h.2)
theorem V0s (q ns:List Int) (h:q.length ≤ 40):Kmr (q,ns)=some ⟨q,ns,0,[]⟩:=by
 unfold Kmr
 simp only
 rw [decide_eq_false (by omega),if_neg (by decide)]
theorem V0t {s:K00} {c:List (List Int)} {t k:K02} {i:Nat} {x:Kmi} (hk:t.fKids[i]?=some k) (hx:Kmu (s,c,k)=some x) (hp:x.fpath.length ≤ 1000000) :
  ∃ y,Kmw (s,c,t,(i:Int))=some y∧y.ffault=x.ffault∧y.fty=x.fty∧y.fneeds=x.fneeds∧y.fpath.length ≤ x.fpath.length + 1:=by
 rw [Kmw.eq_def]
 simp only
 rw [Ky7 hk,bs,hx,bs]
 by_cases hf:x.ffault=0
 ·rw [if_neg (by simp [hf]),bs]
  exact ⟨_,rfl,rfl,rfl,rfl,by simp⟩
 ·rw [if_pos (bne_iff_ne.2 hf),Kpy (by simp; omega),bs,bs]
  exact ⟨_,rfl,rfl,rfl,rfl,by simp⟩
section
variable {s:K00} {n:Nat} (hs:Ktj s n)
include hs
theorem V0u (m:Nat):Ktu n (List.replicate m 0):=fun x hx=>by
 rw [(List.mem_replicate.1 hx).2]
 exact Nat.lt_of_lt_of_le (by decide) hs.tab.lo
theorem V0v (m:Nat):Ktr s n (List.replicate m 0) (List.replicate m 0)=List.replicate m 0:=by
 have:=Ku1 hs (a:=List.replicate m 0) (V0u hs m)
 rw [List.length_replicate] at this
 exact this
theorem V0w {g:Nat} (hg:g < n) (m:Nat):Kts s n g (List.replicate m 0)=List.replicate m 0:=by
 have h:=hs.one g hg
 unfold Kni at h
 simp only [Bool.and_eq_true,beq_iff_eq] at h
 unfold Kts
 rw [List.map_replicate,h.1.2]
theorem V0x {c:Int} (h:Ko7 c=true) (hg:Kov s.fSize true c=true):∃ g:Nat,g < n∧Kou c=(g:Int)∧wr (3 + Kou c)=c:=by
 have hb:=hs.tab.hi
 have hc:(3 ≤ c∧c ≤ 18)∨c=35:=by
  unfold Ko7 inB at h
  simp at h
  omega
 rcases hc with hc | rfl
 ·have:=(Kvc hs hc).1 hg
  refine ⟨(c - 3).toNat,by omega,?_,?_⟩
  ·unfold Kou; rw [if_neg (by omega),if_neg (by omega)]; omega
  ·unfold Kou; rw [if_neg (by omega),if_neg (by omega),Kmz (by omega) (by omega)]; omega
 ·rw [Kva (.inl rfl)] at hg; cases hg
theorem V0y {c:Int} (h:Ko8 c=true) (hg:Kov s.fSize true c=true):∃ g:Nat,g < n∧Kou c=(g:Int)∧wr (19 + Kou c)=c:=by
 have hb:=hs.tab.hi
 have hc:(19 ≤ c∧c ≤ 34)∨c=36:=by
  unfold Ko8 inB at h
  simp at h
  omega
 rcases hc with hc | rfl
 ·have:=(Kvd hs hc).1 hg
  refine ⟨(c - 19).toNat,by omega,?_,?_⟩
  ·unfold Kou; rw [if_neg (by omega),if_pos (by omega)]; omega
  ·unfold Kou; rw [if_neg (by omega),if_pos (by omega),Kmz (by omega) (by omega)]; omega
 ·rw [Kva (.inr rfl)] at hg; cases hg
structure ClT (s:K00) (n:Nat) (T:Ty) (ctx:List (List Int)) (v:K02) (x:Kmi):Prop where
 sp:Kmu (s,ctx,v)=some x
 pl:x.fpath.length ≤ T.code.length
 gd:x.ffault=0→x.fty=T.code∧x.fneeds=Kte (List.replicate ctx.length 0)
 no:((∀ g,g < n→le s n 0 g=true)∨T.dat)→x.ffault=0
theorem V0z {T:Ty} {v:K02} (h:Cl T v):T.ok→T.code.length ≤ 40→T.code.all (Kov s.fSize true)=true→∀ ctx:List (List Int),ctx.length + T.code.length ≤ 1000→∃ x,ClT s n T ctx v x:=by
 induction h with
 | num N hN =>
  intro _ _ _ ctx hc
  refine ⟨⟨[0],Kte (List.replicate ctx.length 0),0,[]⟩,?_,by simp,fun _=>⟨rfl,rfl⟩,fun _=>rfl⟩
  rw [Kmu.eq_def]
  simp [Kug ctx.length (by omega)]
 | @pair a b k m h1 h2 ih1 ih2 =>
  intro ho hl hg ctx hc
  rw [Ty.code,List.length_cons,List.length_append] at hl hc
  rw [Ty.code,List.all_cons,List.all_append,Bool.and_eq_true,Bool.and_eq_true] at hg
  obtain ⟨x0,a1,a2,a3,a4⟩:=ih1 ho.2.1 (by omega) hg.2.1 ctx (by omega)
  obtain ⟨x1,b1,b2,b3,b4⟩:=ih2 ho.2.2 (by omega) hg.2.2 ctx (by omega)
  obtain ⟨y0,o0,p1,p2,p3,p4⟩:=V0t (t:=⟨4,0,[],[k,m]⟩) (i:=0) rfl a1 (by omega)
  obtain ⟨y1,o1,q1,q2,q3,q4⟩:=V0t (t:=⟨4,0,[],[k,m]⟩) (i:=1) rfl b1 (by omega)
  have o0:Kmw (s,ctx,⟨4,0,[],[k,m]⟩,0)=some y0:=o0
  have o1:Kmw (s,ctx,⟨4,0,[],[k,m]⟩,1)=some y1:=o1
  have hlen:(Ty.bin 1 a b).code.length=a.code.length + b.code.length + 1:=by rw [Ty.code,List.length_cons,List.length_append]
  by_cases f0:y0.ffault=0
  rotate_left
  ·refine ⟨y0,?_,by omega,fun h=>absurd h f0,fun h=>?_⟩
   ·rw [Kmu.eq_def]; simp [o0,f0]
   ·rw [p1]; exact a4 (h.imp (fun h=>h) (fun h=>h.2.1))
  by_cases f1:y1.ffault=0
  rotate_left
  ·refine ⟨y1,?_,by omega,fun h=>absurd h f1,fun h=>?_⟩
   ·rw [Kmu.eq_def]; simp [o0,f0,o1,f1]
   ·rw [q1]; exact b4 (h.imp (fun h=>h) (fun h=>h.2.2))
  obtain ⟨t0,n0⟩:=a3 (by rw [← p1]; exact f0)
  obtain ⟨t1,n1⟩:=b3 (by rw [← q1]; exact f1)
  refine ⟨⟨1 :: (a.code ++ b.code),Kte (List.replicate ctx.length 0),0,[]⟩,?_,by simp,fun _=>⟨rfl,rfl⟩,fun _=>rfl⟩
  have g2:Kbu (1,[a.code,b.code])=some (1 :: (a.code ++ b.code)):=by rw [Kuj _ _ (by simp) (by simp; omega)]; simp
  have sm:=Ku4 hs (List.replicate ctx.length 0) (List.replicate ctx.length 0) (V0u hs _) (V0u hs _) (by simp; omega) rfl
  rw [V0v hs] at sm
  rw [Kmu.eq_def]
  simp [o0,f0,o1,f1,p2,q2,p3,q3,t0,t1,n0,n1,g2,sm,V0s (1 :: (a.code ++ b.code)) _ (by simp; omega)]
 | @left a b k h1 ih1 =>
  intro ho hl hg ctx hc
  rw [Ty.code,List.length_cons,List.length_append] at hl hc
  rw [Ty.code,List.all_cons,List.all_append,Bool.and_eq_true,Bool.and_eq_true] at hg
  obtain ⟨x0,a1,a2,a3,a4⟩:=ih1 ho.2.1 (by omega) hg.2.1 ctx (by omega)
  obtain ⟨y0,o0,p1,p2,p3,p4⟩:=V0t (t:=⟨6,0,b.code,[k]⟩) (i:=0) rfl a1 (by omega)
  have o0:Kmw (s,ctx,⟨6,0,b.code,[k]⟩,0)=some y0:=o0
  have hlen:(Ty.bin 2 a b).code.length=a.code.length + b.code.length + 1:=by rw [Ty.code,List.length_cons,List.length_append]
  by_cases f0:y0.ffault=0
  rotate_left
  ·refine ⟨y0,?_,by omega,fun h=>absurd h f0,fun h=>?_⟩
   ·rw [Kmu.eq_def]; simp [o0,f0]
   ·rw [p1]; exact a4 (h.imp (fun h=>h) (fun h=>h.2.1))
  obtain ⟨t0,n0⟩:=a3 (by rw [← p1]; exact f0)
  refine ⟨⟨2 :: (a.code ++ b.code),Kte (List.replicate ctx.length 0),0,[]⟩,?_,by simp,fun _=>⟨rfl,rfl⟩,fun _=>rfl⟩
  have g2:Kbu (2,[a.code,b.code])=some (2 :: (a.code ++ b.code)):=by rw [Kuj _ _ (by simp) (by simp; omega)]; simp
  rw [Kmu.eq_def]
  simp [o0,f0,p2,p3,t0,n0,g2,V0s (2 :: (a.code ++ b.code)) _ (by simp; omega)]
 | @right a b k h1 ih1 =>
  intro ho hl hg ctx hc
  rw [Ty.code,List.length_cons,List.length_append] at hl hc
  rw [Ty.code,List.all_cons,List.all_append,Bool.and_eq_true,Bool.and_eq_true] at hg
  obtain ⟨x0,a1,a2,a3,a4⟩:=ih1 ho.2.2 (by omega) hg.2.2 ctx (by omega)
  obtain ⟨y0,o0,p1,p2,p3,p4⟩:=V0t (t:=⟨7,0,a.code,[k]⟩) (i:=0) rfl a1 (by omega)
  have o0:Kmw (s,ctx,⟨7,0,a.code,[k]⟩,0)=some y0:=o0
  have hlen:(Ty.bin 2 a b).code.length=a.code.length + b.code.length + 1:=by rw [Ty.code,List.length_cons,List.length_append]
  by_cases f0:y0.ffault=0
  rotate_left
  ·refine ⟨y0,?_,by omega,fun h=>absurd h f0,fun h=>?_⟩
   ·rw [Kmu.eq_def]; simp [o0,f0]
   ·rw [p1]; exact a4 (h.imp (fun h=>h) (fun h=>h.2.2))
  obtain ⟨t0,n0⟩:=a3 (by rw [← p1]; exact f0)
  refine ⟨⟨2 :: (a.code ++ b.code),Kte (List.replicate ctx.length 0),0,[]⟩,?_,by simp,fun _=>⟨rfl,rfl⟩,fun _=>rfl⟩
  have g2:Kbu (2,[a.code,b.code])=some (2 :: (a.code ++ b.code)):=by rw [Kuj _ _ (by simp) (by simp; omega)]; simp
  rw [Kmu.eq_def]
  simp [o0,f0,p2,p3,t0,n0,g2,V0s (2 :: (a.code ++ b.code)) _ (by simp; omega)]
 | @fn c a b k hcc h1 ih1 =>
  intro ho hl hg ctx hc
  rw [Ty.code,List.length_cons,List.length_append] at hl hc
  rw [Ty.code,List.all_cons,List.all_append,Bool.and_eq_true,Bool.and_eq_true] at hg
  obtain ⟨g,gl,ge,gw⟩:=V0x hs hcc hg.1
  obtain ⟨x0,a1,a2,a3,a4⟩:=ih1 ho.2.2 (by omega) hg.2.2 (a.code :: ctx) (by simp; omega)
  obtain ⟨y0,o0,p1,p2,p3,p4⟩:=V0t (t:=⟨9,Kou c,a.code,[k]⟩) (i:=0) rfl a1 (by omega)
  have o0:Kmw (s,a.code :: ctx,⟨9,Kou c,a.code,[k]⟩,0)=some y0:=o0
  have hlen:(Ty.bin c a b).code.length=a.code.length + b.code.length + 1:=by rw [Ty.code,List.length_cons,List.length_append]
  have w:Kmn (ctx,[a.code])=some (a.code :: ctx):=Kuh ctx [a.code] (by simp; omega)
  by_cases f0:y0.ffault=0
  rotate_left
  ·refine ⟨y0,?_,by omega,fun h=>absurd h f0,fun h=>?_⟩
   ·rw [Kmu.eq_def]; simp [w,o0,f0]
   ·rw [p1]; exact a4 (h.imp (fun h=>h) (fun h=>h.2.2))
  obtain ⟨t0,n0⟩:=a3 (by rw [← p1]; exact f0)
  have n1:y0.fneeds=0 :: Kte (List.replicate ctx.length 0):=by rw [p3,n0]; simp [Kte,List.replicate_succ]
  have i0:idx (0 :: Kte (List.replicate ctx.length 0)) 0=some 0:=rfl
  have l0:K9k (s,0,Kou c)=some (le s n 0 g):=by rw [ge]; exact sLe hs.tab (a:=0) (Nat.lt_of_lt_of_le (by decide) hs.tab.lo) gl
  cases hle:le s n 0 g with
  | false =>
   refine ⟨⟨[],[],9,[]⟩,?_,by simp,fun h=>absurd h (by decide),fun h=>?_⟩
   ·rw [Kmu.eq_def]; simp [w,o0,f0,n1,i0,l0,hle,Kmo]
   ·rcases h with h | h
    ·rw [h g gl] at hle; cases hle
    ·have:=h.1
     unfold Ko7 inB at hcc
     simp at hcc
     omega
  | true =>
   refine ⟨⟨c :: (a.code ++ b.code),Kte (List.replicate ctx.length 0),0,[]⟩,?_,by simp,fun _=>⟨rfl,rfl⟩,fun _=>rfl⟩
   have g2:Kbu (c,[a.code,b.code])=some (c :: (a.code ++ b.code)):=by rw [Kuj _ _ (by simp) (by simp; omega)]; simp
   have ct:cut (0 :: Kte (List.replicate ctx.length 0)) (some 1) none none=some (Kte (List.replicate ctx.length 0)):=Kry _ _
   rw [Kmu.eq_def]
   simp [w,o0,f0,n1,i0,l0,hle,p2,t0,gw,g2,ct,Kq0 (Kte (List.replicate ctx.length 0)) (by rw [Ktf]; simp; omega),V0s (c :: (a.code ++ b.code)) _ (by simp; omega)]
 | @box c a k hcc h1 ih1 =>
  intro ho hl hg ctx hc
  rw [Ty.code,List.length_cons] at hl hc
  rw [Ty.code,List.all_cons,Bool.and_eq_true] at hg
  obtain ⟨g,gl,ge,gw⟩:=V0y hs hcc hg.1
  obtain ⟨x0,a1,a2,a3,a4⟩:=ih1 ho.2 (by omega) hg.2 ctx (by omega)
  obtain ⟨y0,o0,p1,p2,p3,p4⟩:=V0t (t:=⟨11,Kou c,[],[k]⟩) (i:=0) rfl a1 (by omega)
  have o0:Kmw (s,ctx,⟨11,Kou c,[],[k]⟩,0)=some y0:=o0
  have hlen:(Ty.un c a).code.length=a.code.length + 1:=by rw [Ty.code,List.length_cons]
  by_cases f0:y0.ffault=0
  rotate_left
  ·refine ⟨y0,?_,by omega,fun h=>absurd h f0,fun h=>?_⟩
   ·rw [Kmu.eq_def]; simp [o0,f0]
   ·rw [p1]; exact a4 (h.imp (fun h=>h) (fun h=>h))
  obtain ⟨t0,n0⟩:=a3 (by rw [← p1]; exact f0)
  refine ⟨⟨c :: a.code,Kte (List.replicate ctx.length 0),0,[]⟩,?_,by simp,fun _=>⟨rfl,rfl⟩,fun _=>rfl⟩
  have g2:Kbu (c,[a.code])=some (c :: a.code):=by rw [Kuj _ _ (by simp) (by simp; omega)]; simp
  have sm:=Ku3 hs g gl (List.replicate ctx.length 0) (List.replicate ctx.length 0) (V0u hs _) (V0u hs _) (by simp; omega) rfl
  rw [V0w hs gl,V0v hs] at sm
  rw [← ge] at sm
  rw [Kmu.eq_def]
  simp [o0,f0,p2,p3,t0,n0,gw,g2,Kug ctx.length (by omega),sm,V0s (c :: a.code) _ (by simp; omega)]
end
theorem V10 (c:Int) (a:List Int) (h:a.length ≤ 1000000):Kbu (c,[a])=some (c :: a):=by
 rw [Kuj c [a] (by simp) (by simp; omega)]; simp
theorem V11 (c:Int) (a b:List Int) (h:a.length + b.length ≤ 1000000):Kbu (c,[a,b])=some (c :: (a ++ b)):=by
 rw [Kuj c [a,b] (by simp) (by simp; omega)]; simp
theorem V12 {c:K01} (h:Ky8 c):Gv (Kbn c) (fun r=>sms r.1 ≤ 300∧Ky8 r.2):=by
 unfold Kbn
 refine Gv.bind (V0q h) ?_
 rintro ⟨s,c1⟩ ⟨hs,h1⟩
 simp only at hs h1 ⊢
 obtain ⟨ok,⟨z1,z2⟩,hm⟩:=V0l hs
 have tb:=Kqd ok
 have hn:2 ≤ s.fSize.toNat:=by omega
 have hnn:2 * 2 ≤ s.fSize.toNat * s.fSize.toNat:=Nat.mul_le_mul hn hn
 have lP:=tb.lp
 have lT:=tb.lt
 have lB:=tb.lb
 unfold sms at hm
 refine Gv.bind (Kyf h1 9) ?_
 rintro ⟨x,c2⟩ ⟨hx,h2⟩
 simp only at hx h2 ⊢
 refine Gv.bind (Q:=fun r:Int × List Int × List Int × List Bool × List Int × Int × Int=>sms ⟨r.1,r.2.1,r.2.2.1,r.2.2.2.1⟩ ≤ 300∧Ky8 ⟨r.2.2.2.2.1,r.2.2.2.2.2.1,r.2.2.2.2.2.2⟩) (.ite (fun _=>?_) (fun _=>?_)) ?_
 ·refine Gv.bind (Kyf h2 _) ?_
  rintro ⟨y,c3⟩ ⟨hy,h3⟩
  simp only at hy h3 ⊢
  refine Gv.bind (Kyf h3 _) ?_
  rintro ⟨z,c4⟩ ⟨hz,h4⟩
  simp only at hz h4 ⊢
  have hy:=hy.1 (by omega)
  obtain ⟨v,e,hv⟩:=Kya hy.1 hy.2
  rw [e,bs]
  refine .of ⟨?_,h4⟩
  simp only [sms,List.length_set]
  exact hm
 ·refine Gv.bind (Q:=fun r:Int × List Int × List Bool × List Int × Int × Int=>r.2.1.length=s.fTimes.length∧r.2.2.1.length=s.fBelow.length∧Ky8 ⟨r.2.2.2.1,r.2.2.2.2.1,r.2.2.2.2.2⟩) (.ite (fun _=>?_) (fun _=>?_)) ?_
  ·refine Gv.bind (Kyf h2 _) ?_
   rintro ⟨y,c3⟩ ⟨hy,h3⟩
   simp only at hy h3 ⊢
   refine Gv.bind (Kyf h3 _) ?_
   rintro ⟨z,c4⟩ ⟨hz,h4⟩
   simp only at hz h4 ⊢
   have hy:=hy.1 (by omega)
   obtain ⟨v,e,hv⟩:=Kya hy.1 hy.2
   rw [e,bs]
   exact .of ⟨by simp,rfl,h4⟩
  ·refine Gv.bind (Q:=fun r:Int × List Bool × List Int × Int × Int=>r.2.1.length=s.fBelow.length∧Ky8 ⟨r.2.2.1,r.2.2.2.1,r.2.2.2.2⟩) (.ite (fun _=>?_) (fun _=>?_)) ?_
   ·refine Gv.bind (Kyf h2 _) ?_
    rintro ⟨y,c3⟩ ⟨hy,h3⟩
    simp only at hy h3 ⊢
    have hy:=hy.1 (by omega)
    obtain ⟨v,e,hv⟩:=Kya hy.1 hy.2
    rw [e,bs,bs]
    exact .of ⟨by simp,h3⟩
   ·refine Gv.bind (Q:=fun r:Int × List Int × Int × Int=>Ky8 ⟨r.2.1,r.2.2.1,r.2.2.2⟩) (.ite (fun _=>?_) (fun _=>.of h2)) ?_
    ·refine Gv.bind (Kyi h2) ?_
     rintro ⟨y,c3⟩ ⟨hy,h3⟩
     exact .of h3
    ·rintro ⟨a,b,d,e⟩ q
     exact .of ⟨rfl,q⟩
   ·rintro ⟨a,b,d,e,f⟩ q
    exact .of ⟨rfl,q⟩
  ·rintro ⟨a,b,d,e,f,g⟩ ⟨q1,q2,q3⟩
   refine .of ⟨?_,q3⟩
   simp only at q1 q2
   simp only [sms,q1,q2]
   exact hm
 ·rintro ⟨a,b,d,e,f,g,i⟩ q
  exact .of q
theorem V13 (d:Nat) (hd:d ≤ 10):2 ^ d ≤ 1024:=Nat.le_trans (Nat.pow_le_pow_right (by decide) hd) (by decide)
theorem V14 {s:K00}:∀ (d:Nat) (c:K01) (data:Bool),d ≤ 8→Ky8 c→Gv (Kbx (c,s,(d:Int),data)) (fun r=>(1 ≤ r.1.length∧r.1.length + 1 ≤ 2 ^ (d + 1))∧Ky8 r.2):=by
 intro d
 induction d with
 | zero =>
  intro c data _ h
  rw [Kbx.eq_def]
  simp only
  refine Gv.bind (Kyf h 6) ?_
  rintro ⟨x,c1⟩ ⟨hx,h1⟩
  simp only at hx h1 ⊢
  rw [show decide (((0:Nat):Int) ≤ 0)=true from rfl,if_pos rfl,bs,if_pos rfl]
  exact .of ⟨⟨by simp,by simp⟩,h1⟩
 | succ d ih =>
  intro c data hd h
  have hp:=V13 (d + 1) (by omega)
  have hpe:2 ^ (d + 1 + 1)=2 ^ (d + 1) + 2 ^ (d + 1):=by rw [Nat.pow_succ]; omega
  have hp1:2 ≤ 2 ^ (d + 1):=Nat.le_trans (by decide) (Nat.pow_le_pow_right (n:=2) (by decide) (show 1 ≤ d + 1 by omega))
  have wd:wr (((d + 1:Nat):Int) - 1)=((d:Nat):Int):=by rw [Kmz (by omega) (by omega)]; omega
  rw [Kbx.eq_def]
  simp only
  refine Gv.bind (Kyf h 6) ?_
  rintro ⟨x,c1⟩ ⟨hx,h1⟩
  simp only at hx h1 ⊢
  rw [show decide (((d + 1:Nat):Int) ≤ 0)=false from decide_eq_false (by omega),if_neg (by decide),bs]
  refine .ite (fun _=>.of ⟨⟨by simp,by simp; omega⟩,h1⟩) (fun _=>?_)
  rw [wd]
  refine Gv.bind (ih c1 data (by omega) h1) ?_
  rintro ⟨a,c2⟩ ⟨ha,h2⟩
  simp only at ha h2 ⊢
  refine .ite (fun _=>?_) (fun _=>?_)
  ·refine Gv.bind (Kyf h2 _) ?_
   rintro ⟨y,c3⟩ ⟨hy,h3⟩
   simp only at hy h3 ⊢
   rw [V10 _ _ (by omega),bs]
   exact .of ⟨by simp; omega,h3⟩
  refine Gv.bind (Q:=fun _=>True) (.ite (fun _=>.of trivial) (fun _=>.of trivial)) (fun v _=>?_)
  refine .ite (fun _=>?_) (fun _=>.ite (fun _=>?_) (fun _=>?_))
  ·refine Gv.bind (Kyf h2 _) ?_
   rintro ⟨y,c3⟩ ⟨hy,h3⟩
   simp only at hy h3 ⊢
   refine Gv.bind (ih c3 data (by omega) h3) ?_
   rintro ⟨b,c4⟩ ⟨hb,h4⟩
   simp only at hb h4 ⊢
   rw [V11 _ _ _ (by omega),bs]
   exact .of ⟨by simp; omega,h4⟩
  ·refine Gv.bind (ih c2 data (by omega) h2) ?_
   rintro ⟨b,c4⟩ ⟨hb,h4⟩
   simp only at hb h4 ⊢
   rw [V11 _ _ _ (by omega),bs]
   exact .of ⟨by simp; omega,h4⟩
  ·refine Gv.bind (ih c2 data (by omega) h2) ?_
   rintro ⟨b,c4⟩ ⟨hb,h4⟩
   simp only at hb h4 ⊢
   rw [V11 _ _ _ (by omega),bs]
   exact .of ⟨by simp; omega,h4⟩
theorem V15 (c:K01):∀ (k:Nat) (ty:List Int),1 ≤ ty.length→ty.length + k=30∨(30 ≤ ty.length∧k=0)→ty.length ≤ 100→Gv (Kc1 (c,ty)) (fun r=>r.length ≤ 100):=by
 intro k
 induction k using Nat.strongRecOn with
 | ind k ih =>
  intro ty h1 h2 h3
  rw [Kc1.eq_def]
  simp only
  refine .ite (fun hb=>?_) (fun _=>.of h3)
  have hb:=of_decide_eq_true hb
  rw [V11 _ _ _ (by omega),bs]
  by_cases hk:2 * ty.length + 1 < 30
  ·exact ih (30 - (2 * ty.length + 1)) (by omega) _ (by simp) (by left; simp; omega) (by simp; omega)
  ·exact ih 0 (by omega) _ (by simp) (by right; simp; omega) (by simp; omega)
theorem V16 {s:K00} {c:K01} (h:Ky8 c):Gv (Kc4 (c,s)) (fun r=>r.1.length ≤ 100∧Ky8 r.2):=by
 unfold Kc4
 simp only
 refine Gv.bind (Kyg h 2) ?_
 rintro ⟨x,c1⟩ h1
 simp only at h1 ⊢
 refine Gv.bind (V14 3 c1 x (by decide) h1) ?_
 rintro ⟨ty,c2⟩ ⟨⟨l1,l2⟩,h2⟩
 simp only at l1 l2 h2 ⊢
 refine Gv.bind (Kyf h2 14) ?_
 rintro ⟨y,c3⟩ ⟨hy,h3⟩
 simp only at hy h3 ⊢
 refine Gv.bind (Q:=fun r:List Int × List Int × Int × Int=>r.1.length ≤ 100∧Ky8 ⟨r.2.1,r.2.2.1,r.2.2.2⟩) (.ite (fun _=>?_) (fun _=>?_)) ?_
 ·refine Gv.bind (Kyf h3 _) ?_
  rintro ⟨z,c4⟩ ⟨hz,h4⟩
  simp only at hz h4 ⊢
  refine Gv.bind (Kyh h4 _ (by decide)) ?_
  rintro ⟨w,c5⟩ ⟨hw,h5⟩
  simp only at hw h5 ⊢
  have hz:=hz.1 (by omega)
  obtain ⟨v,e,hv⟩:=Kya hz.1 hz.2
  rw [e,bs]
  exact .of ⟨by simp; omega,h5⟩
 ·refine Gv.bind (Q:=fun r:List Int=>r.length ≤ 100) (.ite (fun _=>?_) (fun _=>?_)) ?_
  ·rw [show wr ((ty.length:Int) - 1)=((ty.length - 1:Nat):Int) from by rw [Kmz (by omega) (by omega)]; omega,Kvr (by omega),bs]
   exact .of (by simp; omega)
  ·refine Gv.bind (Q:=fun r:List Int=>r.length ≤ 100) (.ite (fun _=>?_) (fun _=>?_)) (fun r hr=>.of hr)
   ·rw [Kpy (by simp; omega),bs]
    exact .of (by simp; omega)
   ·refine Gv.bind (Q:=fun r:List Int=>r.length ≤ 100) (.ite (fun _=>?_) (fun _=>.of (by omega))) (fun r hr=>.of hr)
    exact Gv.bind (V15 c3 (30 - ty.length) ty l1 (by omega) (by omega)) (fun r hr=>.of hr)
  ·intro r hr
   exact .of ⟨hr,h3⟩
 ·rintro ⟨a,b,d,e⟩ q
  exact .of q
theorem V17 (code:List Int) (hl:code.length ≤ 1048576) (hb:∀ v ∈ code,0 ≤ v∧v ≤ 255):Gv (Kc7 code) (fun r=>sms r.1 ≤ 300∧r.2.length ≤ 100):=by
 unfold Kc7
 refine Gv.bind (Kyc code hl hb) (fun c0 h0=>?_)
 refine Gv.bind (V0q h0) ?_
 rintro ⟨s,c1⟩ ⟨hs,h1⟩
 simp only at hs h1 ⊢
 refine Gv.bind (Kyg h1 9) ?_
 rintro ⟨x,c2⟩ h2
 simp only at h2 ⊢
 refine .ite (fun _=>?_) (fun _=>?_)
 ·refine Gv.bind (V12 h2) ?_
  rintro ⟨s',c3⟩ ⟨hs',h3⟩
  simp only at hs' h3 ⊢
  refine Gv.bind (V14 2 c3 true (by decide) h3) ?_
  rintro ⟨ty,c4⟩ ⟨⟨l1,l2⟩,h4⟩
  simp only at l1 l2 h4 ⊢
  exact .of ⟨hs',by simp only; omega⟩
 ·refine Gv.bind (V16 h2) ?_
  rintro ⟨ty,c3⟩ ⟨hty,h3⟩
  exact .of ⟨(V0l hs).2.2,hty⟩
theorem V18 {P:Int→Prop} {g:Int→Bool} {y:List Int→Bool} (hg:∀ c,P c→Ko9 c > 0→c > 2→g (Kou c)=true) (hy:∀ U:Ty,U.ok→U.code.length ≤ 40→(∀ c ∈ U.code,P c)→y U.code=true) {T:Ty} {v:K02} (h:Cl T v) :
  T.ok→T.code.length ≤ 40→(∀ c ∈ T.code,P c)→(∀ m:Nat,tOk g y m v=true)∧tsz v ≤ T.code.length:=by
 induction h with
 | num N hN =>
  intro _ _ _
  refine ⟨fun m=>?_,by simp [tsz,Kp0,Ty.code]⟩
  rw [Kpr]
  simp [Kpq,Kpp,Kpn,Kpo,inB,Kp9,Kpa,Kpb,hN.1,hN.2]
 | @pair a b k m h1 h2 ih1 ih2 =>
  intro ho hl hp
  rw [Ty.code,List.length_cons,List.length_append] at hl ⊢
  rw [Ty.code] at hp
  obtain ⟨a1,a2⟩:=ih1 ho.2.1 (by omega) (fun c hc=>hp c (by simp [hc]))
  obtain ⟨b1,b2⟩:=ih2 ho.2.2 (by omega) (fun c hc=>hp c (by simp [hc]))
  refine ⟨fun m=>?_,by simp only [tsz,Kp0]; omega⟩
  rw [Kpr]
  simp [Kpq,a1,b1,Kpp,Kpn,Kpo,inB,Kp9,Kpa,Kpb]
 | @left a b k h1 ih1 =>
  intro ho hl hp
  rw [Ty.code,List.length_cons,List.length_append] at hl ⊢
  rw [Ty.code] at hp
  obtain ⟨a1,a2⟩:=ih1 ho.2.1 (by omega) (fun c hc=>hp c (by simp [hc]))
  have yb:=hy b ho.2.2 (by omega) (fun c hc=>hp c (by simp [hc]))
  refine ⟨fun m=>?_,by simp only [tsz,Kp0]; omega⟩
  rw [Kpr]
  simp [Kpq,a1,yb,Kpp,Kpn,Kpo,inB,Kp9,Kpa,Kpb]
 | @right a b k h1 ih1 =>
  intro ho hl hp
  rw [Ty.code,List.length_cons,List.length_append] at hl ⊢
  rw [Ty.code] at hp
  obtain ⟨a1,a2⟩:=ih1 ho.2.2 (by omega) (fun c hc=>hp c (by simp [hc]))
  have yb:=hy a ho.2.1 (by omega) (fun c hc=>hp c (by simp [hc]))
  refine ⟨fun m=>?_,by simp only [tsz,Kp0]; omega⟩
  rw [Kpr]
  simp [Kpq,a1,yb,Kpp,Kpn,Kpo,inB,Kp9,Kpa,Kpb]
 | @fn c a b k hcc h1 ih1 =>
  intro ho hl hp
  rw [Ty.code,List.length_cons,List.length_append] at hl ⊢
  rw [Ty.code] at hp
  obtain ⟨a1,a2⟩:=ih1 ho.2.2 (by omega) (fun c hc=>hp c (by simp [hc]))
  have yb:=hy a ho.2.1 (by omega) (fun c hc=>hp c (by simp [hc]))
  have gg:=hg c (hp c (by simp)) (by rw [ho.1]; decide) (by unfold Ko7 inB at hcc; simp at hcc; omega)
  refine ⟨fun m=>?_,by simp only [tsz,Kp0]; omega⟩
  rw [Kpr]
  simp [Kpq,a1,yb,gg,Kpp,Kpn,Kpo,inB,Kp9,Kpa,Kpb]
 | @box c a k hcc h1 ih1 =>
  intro ho hl hp
  rw [Ty.code,List.length_cons] at hl ⊢
  rw [Ty.code] at hp
  obtain ⟨a1,a2⟩:=ih1 ho.2 (by omega) (fun c hc=>hp c (by simp [hc]))
  have gg:=hg c (hp c (by simp)) (by rw [ho.1]; decide) (by unfold Ko8 inB at hcc; simp at hcc; omega)
  refine ⟨fun m=>?_,by simp only [tsz,Kp0]; omega⟩
  rw [Kpr]
  simp [Kpq,a1,gg,Kpp,Kpn,Kpo,inB,Kp9,Kpa,Kpb]
theorem V19 {size c:Int} (h:Kov size true c=true) (h1:Ko9 c > 0) (h2:c > 2):gN size true (Kou c)=true:=by
 unfold Kov at h
 unfold gN
 simp [h1,h2] at h ⊢
 omega
theorem V1a {size c:Int} (hs:size ≤ 16) (h:Kov size true c=true) (h1:Ko9 c > 0) (h2:c > 2):gN 16 false (Kou c)=true:=by
 unfold Kov at h
 unfold gN
 simp [h1,h2] at h ⊢
 omega
theorem V1b {s:K00} (hsz:s.fSize ≤ 16) {T:Ty} {v:K02} (h:Cl T v) (ho:T.ok) (hl:T.code.length ≤ 40) (hg:T.code.all (Kov s.fSize true)=true) :
  (∀ m:Nat,tOk (gN s.fSize true) (yN s.fSize true) m v=true)∧wB v=true∧tsz v ≤ 40:=by
 rw [List.all_eq_true] at hg
 obtain ⟨q1,q2⟩:=V18 (P:=fun c=>Kov s.fSize true c=true) (g:=gN s.fSize true) (y:=yN s.fSize true) (fun c h h1 h2=>V19 h h1 h2) (fun U u1 u2 u3=>by
  unfold yN
  rw [Kqn u1 u2,List.all_eq_true.2 u3]; rfl) h ho hl hg
 obtain ⟨r1,_⟩:=V18 (P:=fun c=>Kov s.fSize true c=true) (g:=gN 16 false) (y:=wtB) (fun c h h1 h2=>V1a hsz h h1 h2) (fun U u1 u2 u3=>Kqn u1 u2) h ho hl hg
 refine ⟨q1,?_,by omega⟩
 unfold wB
 rw [r1 8,decide_eq_true (by omega)]; rfl
theorem V1c {s:K00} {T:Ty} (h:Krd s T.code=true):Kqc s=true∧T.code.all (Kov s.fSize true)=true:=by
 unfold Krd at h
 rw [Bool.and_eq_true] at h
 refine ⟨h.1,?_⟩
 have h2:=h.2
 rw [Krc (Kqd h.1)] at h2
 unfold yN at h2
 rw [Bool.and_eq_true] at h2
 exact h2.2
theorem V1d {s:K00} {T:Ty} {v:K02} (h:Cl T v) (ho:T.ok) (hl:T.code.length ≤ 40) (ht:Krd s T.code=true) (hm:tms v ≤ 1048576) :
  ∃ b,Kkc (s,[],v)=some (if b then T.code else [],[],b)∧(((∀ g,g < s.fSize.toNat→le s s.fSize.toNat 0 g=true)∨T.dat)→b=true):=by
 obtain ⟨sy,hg⟩:=V1c ht
 have hs:=Ktk sy
 have hsz:s.fSize ≤ 16:=by have:=hs.tab.size; have:=hs.tab.hi; omega
 obtain ⟨q1,q2,q3⟩:=V1b hsz h ho hl hg
 have hi:Kv2 s [] v=true:=by
  unfold Kv2 Kus Ksv
  rw [sy,q1]
  simp
  omega
 obtain ⟨x,r⟩:=V0z hs h ho hl hg [] (by simp; omega)
 rcases Ky5 s [] v (by simp [lms,lct]) (by omega) with ⟨_,h2,h3⟩ | ⟨x',y,r',hf,_,_,h2,_⟩
 ·refine ⟨false,h2,fun hz=>?_⟩
  rcases h3 with h3 | ⟨x',y,r',hf⟩
  ·rw [hi] at h3; cases h3
  ·have e:=r.sp
   rw [r'.sp] at e
   cases e
   exact absurd (r.no hz) hf
 ·have e:=r.sp
  rw [r'.sp] at e
  cases e
  obtain ⟨t1,t2⟩:=r.gd hf
  refine ⟨true,?_,fun _=>rfl⟩
  rw [h2,t1,t2]
  rfl
theorem V1e (T:Ty):T.ok→T.dat→vB T (dfl T)=true:=by
 induction T with
 | num=>intro _ _; rfl
 | bin c a b iha ihb =>
  intro ho hd
  rw [dfl]
  rcases hd.1 with rfl | rfl
  ·rw [if_pos rfl,Ksg,if_pos rfl]
   simp [iha ho.2.1 hd.2.1,ihb ho.2.2 hd.2.2]
  ·rw [if_neg (by decide),if_pos rfl,Ksg,if_neg (by decide)]
   simp [iha ho.2.1 hd.2.1]
 | un c a ih =>
  intro ho hd
  rw [dfl,Ksh]
  simp [ih ho.2 hd]
theorem V1f (T:Ty):T.ok→T.dat→dfl T=vAt T 0:=by
 induction T with
 | num=>intro _ _; rfl
 | bin c a b iha ihb =>
  intro ho hd
  rw [dfl,vAt]
  rcases hd.1 with rfl | rfl
  ·rw [if_pos rfl,if_pos rfl,iha ho.2.1 hd.2.1,ihb ho.2.2 hd.2.2,Int.zero_tdiv,Int.zero_tmod]
   rfl
  ·have:=(Krj a).1
   rw [if_neg (by decide),if_pos rfl,if_neg (by decide),if_pos (by omega),iha ho.2.1 hd.2.1]
 | un c a ih =>
  intro ho hd
  rw [dfl,vAt,ih ho.2 hd]
theorem V1g (a:List Int) (ha:a.length ≤ 1099511627776):∀ (k n:Nat),n + k=a.length→Kkr (a,a,(n:Int))=some (.inl ()):=by
 intro k
 induction k with
 | zero =>
  intro n hn
  rw [Kkr.eq_def]
  simp only
  rw [Kn3 (by omega)]; rfl
 | succ k ih =>
  intro n hn
  rw [Kkr.eq_def]
  simp only
  rw [Kn2 (by omega),if_pos rfl,Kn0 (by omega),bs,bs,Kn4,if_neg (by decide),Kn1 (by omega),ih (n + 1) (by omega)]
theorem V1h (a:List Int) (ha:a.length ≤ 1099511627776):Kku (a,a)=some true:=by
 unfold Kku
 simp only
 rw [Kn4,if_neg (by decide),show (0:Int)=((0:Nat):Int) from rfl,V1g a ha a.length 0 (by omega),bs]
theorem V1i {s:K00} {T:Ty} {v:K02} (h:(Krd s T.code && Kqx T.code)=true) (h1:T.ok) (h2:T.dat) (h4:T.code.length ≤ 40) (hc:Kri T ≤ 300) (q:vB T v=true):Kg1 (s,T.code,v)=some ((plV T v:Nat):Int):=by
 unfold Kg1
 simp only
 rcases Krt s T.code (by omega) with ⟨T',a1,a2,a3,a4,a5,a6,a7⟩ | ⟨a5,a6,a7⟩
 ·have:Kfv (s,T.code)=some (Kri T:Int):=by
   unfold Kfv
   simp only
   rw [Krh s T.code (by omega),h,bs,if_pos rfl,Krr T h1 h2 (by omega),bs,bs,decide_eq_false (by omega),if_neg (by decide),bs]
  rw [this,bs,Ksi T v h1 h2 (by omega),q,decide_eq_false (by omega),Ktd T v h1 h2 (by omega) hc q]
  rfl
 ·rw [h] at a5; cases a5
section
variable {s:K00} {n:Nat} (hs:Tab s n)
include hs
theorem V1j {g:Nat} (hg:g < n):∀ (k h:Nat) (b:Bool),h + k=n→Kkg (s,(g:Int),b,(h:Int))=some (b && (List.range' h k).all (le s n g)):=by
 intro k
 induction k with
 | zero =>
  intro h b hh
  rw [Kkg.eq_def]
  simp only
  rw [hs.size,Kn3 (by omega)]
  simp
 | succ k ih =>
  intro h b hh
  have hb:=hs.hi
  rw [Kkg.eq_def]
  simp only
  rw [hs.size,Kn2 (by omega),if_pos rfl,iLe hs hg (by omega),bs]
  cases b with
  | false =>
   rw [if_neg (by decide),bs,Kn1 (by omega),ih (h + 1) false (by omega)]; rfl
  | true =>
   rw [if_pos rfl,bs,Kn1 (by omega),ih (h + 1) _ (by omega)]
   simp [List.range'_succ]
theorem V1k:∀ (k g:Nat),g + k=n→∃ r,Kkk (s,(g:Int))=some r∧(r=.inr 0→(List.range' 0 n).all (le s n 0)=true):=by
 intro k
 induction k with
 | zero =>
  intro g hg
  rw [Kkk.eq_def]
  simp only
  rw [hs.size,Kn3 (by omega)]
  exact ⟨.inl (),rfl,fun h=>by cases h⟩
 | succ k ih =>
  intro g hg
  have hb:=hs.hi
  rw [Kkk.eq_def]
  simp only
  have l0:=V1j hs (g:=g) (by omega) n 0 true (by omega)
  rw [show ((0:Nat):Int)=0 from rfl] at l0
  rw [hs.size,Kn2 (by omega),if_pos rfl,l0,bs,Bool.true_and]
  cases q:(List.range' 0 n).all (le s n g) with
  | true =>
   refine ⟨.inr (g:Int),rfl,fun h=>?_⟩
   have:(g:Int)=0:=by simpa using h
   have:g=0:=by omega
   subst this
   exact q
  | false =>
   rw [if_neg (by decide),Kn1 (by omega)]
   exact ih (g + 1) (by omega)
end
theorem V1l (s:K00):∃ r,Kkn s=some r∧(r=0→Kqc s=true∧∀ g,g < s.fSize.toNat→le s s.fSize.toNat 0 g=true):=by
 unfold Kkn
 rw [Kqf,bs]
 cases sy:Kqc s with
 | false=>exact ⟨-1,rfl,fun h=>by cases h⟩
 | true =>
  obtain ⟨r,h1,h2⟩:=V1k (Kqd sy) s.fSize.toNat 0 (by omega)
  rw [show ((0:Nat):Int)=0 from rfl] at h1
  rw [if_pos rfl,h1,bs]
  cases r with
  | inl u=>exact ⟨-1,rfl,fun h=>by cases h⟩
  | inr r =>
   refine ⟨r,rfl,fun h=>⟨rfl,fun g hg=>?_⟩⟩
   have:=h2 (by rw [h])
   rw [List.all_eq_true] at this
   exact this g (by rw [List.mem_range'_1]; omega)
theorem V1m (code:List Int) (w:code.length ≤ maxLen∧∀ v ∈ code,0 ≤ v∧v ≤ 255):Klu code=some true:=by
 unfold Klu K7m
 rw [bs]
 by_cases hbig:(code.length:Int) > 1048576
 ·rw [decide_eq_true hbig,if_pos rfl]
 rw [decide_eq_false hbig,if_neg (by decide)]
 obtain ⟨⟨s,ty⟩,e,hsm,hty⟩:=V17 code (by omega) w.2
 simp only at hsm hty
 rw [e,bs]
 simp only
 have hd:Kep (s,ty)=(if Krd s ty=true then Kem ty >>= fun r=>some (r,true) else some (⟨0,0,[],[]⟩,false)):=by
  unfold Kep
  simp only
  rw [Ks7 s ty (by omega),bs]
 rw [hd,Ks7 s ty (by omega)]
 cases ht:Krd s ty with
 | false =>
  rw [if_neg (by decide),bs]
  simp only
  rw [bs,if_pos (by decide),if_neg (by decide),Kre s ty (by omega),bs,ht]
  rfl
 | true =>
  obtain ⟨T,h1,rfl,h3⟩:=Ks8 ht
  have hcl:=V0r T h1
  have htm:=Ks5 T
  obtain ⟨b,q1,q2⟩:=V1d hcl h1 h3 ht (by omega)
  obtain ⟨lg,l1,l2⟩:=V1l s
  rw [if_pos rfl,Ks6 T h1 (by omega),bs,bs]
  simp only [bs,Krw,if_true]
  rw [Krh s T.code (by omega),bs]
  have e4:((if (Krd s T.code && Kqx T.code)=true then Kfp (s,T.code,dfl T) >>= fun r_9_7=>if r_9_7=true then Kfv (s,T.code) >>= fun r_9_13=>if decide (r_9_13 > 0)=true then Kg1 (s,T.code,dfl T) >>= fun r_9_19=>some (r_9_19 != 0) else some false else some true
    else Kfv (s,T.code) >>= fun r_9_13=>if decide (r_9_13 > 0)=true then Kg1 (s,T.code,dfl T) >>= fun r_9_19=>some (r_9_19 != 0) else some false):Option Bool)=some false:=by
   cases hdt:Krd s T.code && Kqx T.code with
   | false =>
    rw [if_neg (by decide)]
    rcases Krt s T.code (by omega) with ⟨T',a1,a2,a3,a4,a5,a6,a7⟩ | ⟨a5,a6,a7⟩
    ·rw [hdt] at a5; cases a5
    ·rw [a7,bs]; rfl
   | true =>
    have hdat:T.dat:=Kqw h1 (by rw [Bool.and_eq_true] at hdt; exact hdt.2)
    have hv:=V1e T h1 hdat
    rw [if_pos rfl,(Ktc (dfl T) hdt h1 hdat h3 (by omega)).2,hv,bs,if_pos rfl]
    have hcv:Kfv (s,T.code)=some (if Kri T > 300 then -1 else (Kri T:Int)):=by
     unfold Kfv
     simp only
     rw [Krh s T.code (by omega),hdt,bs,if_pos rfl,Krr T h1 hdat (by omega),bs,bs]
     by_cases q:Kri T > 300
     ·rw [decide_eq_true (by omega),if_pos rfl,if_pos q]
     ·rw [decide_eq_false (by omega),if_neg (by decide),if_neg q,bs]
    rw [hcv,bs]
    by_cases q:Kri T > 300
    ·rw [if_pos q]; rfl
    ·rw [if_neg q]
     have hp:=V1i hdt h1 hdat h3 (by omega) hv
     have h0:plV T (dfl T)=0:=by
      rw [V1f T h1 hdat]
      exact Kta T 0 hdat (by omega) (by have:=(Krj T).1; omega)
     rw [hp,h0]
     split <;> rfl
  refine (congrArg (· >>= _) e4).trans ?_
  rw [bs,if_neg (by decide),q1,bs]
  simp only
  rw [l1,bs]
  have e7:((if (lg == 0)=true then some (!b) else some false):Option Bool)=some false:=by
   by_cases hz:lg=0
   ·rw [if_pos (by simp [hz]),q2 (.inl (l2 hz).2)]; rfl
   ·rw [if_neg (by simpa using hz)]
  rw [e7,bs,if_neg (by decide)]
  cases b with
  | false=>rfl
  | true=>rw [if_pos rfl,if_pos rfl,V1h T.code (by omega)]; rfl
end Go.Am
