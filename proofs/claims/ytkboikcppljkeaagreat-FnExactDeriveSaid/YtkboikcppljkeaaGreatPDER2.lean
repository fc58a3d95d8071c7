/- Plain laws of the printed functions. -/
import Derived.Test.YtkboikcppljkeaaGreatPDER1
set_option linter.unusedSimpArgs false
set_option linter.unusedVariables false
namespace Go.Am
theorem V24 (g:Nat) (h:g ≤ 15):Kst (3 + (g:Int))=(3,(g:Int)):=by
 rcases Ksv (3 + (g:Int)) with h | h | h | h | h | h | h | h <;> first | omega | (obtain ⟨_,e⟩:=h; rw [e]; congr 1; omega)
theorem V25 (g:Nat) (h:g ≤ 15):Kst (19 + (g:Int))=(4,(g:Int)):=by
 rcases Ksv (19 + (g:Int)) with h | h | h | h | h | h | h | h <;> first | omega | (obtain ⟨_,e⟩:=h; rw [e]; congr 1; omega)
theorem V26 (g:Nat) (h:g ≤ 15):Ksm (3 + (g:Int))=true:=by unfold Ksm inB; simp; omega
theorem V27 (g:Nat) (h:g ≤ 15):Ksm (19 + (g:Int))=false:=by unfold Ksm inB; simp; omega
theorem V28 (g:Nat) (h:g ≤ 15):Ksn (3 + (g:Int))=false:=by unfold Ksn inB; simp; omega
theorem V29 (g:Nat) (h:g ≤ 15):Ksn (19 + (g:Int))=true:=by unfold Ksn inB; simp; omega
theorem V2a (g:Nat) (h:g ≤ 15):Kc6 (3 + (g:Int))=some (g:Int):=by
 rw [Ktb (by rcases Kss (3 + (g:Int)) with h | h | h | h <;> omega)]
 unfold Kt9
 rw [if_neg (by omega),if_neg (by omega)]
 congr 1; omega
theorem V2b (g:Nat) (h:g ≤ 15):Kc6 (19 + (g:Int))=some (g:Int):=by
 rw [Ktb (by rcases Kss (19 + (g:Int)) with h | h | h | h <;> omega)]
 unfold Kt9
 rw [if_neg (by omega),if_pos (by omega)]
 congr 1; omega
section
variable {s:K00} {n:Nat} (hs:Ky1 s n) {ctx:List (List Int)} {N:Int} {ty:List Int} {ks:List K01}
include hs
structure V2c (s:K00) (n:Nat) (q:List Int) (c:Int):Prop where
 arr:(Kst c).1=3→∃ (g:Nat) (a b:List Int),g < n∧g ≤ 15∧c=3 + (g:Int)∧q=c :: (a ++ b)∧Kzq s (3 + (g:Int)) a b
 pair:(Kst c).1=1→∃ (a b:List Int),c=1∧q=c :: (a ++ b)∧Kzq s 1 a b
 sum:(Kst c).1=2→∃ (a b:List Int),c=2∧q=c :: (a ++ b)∧Kzq s 2 a b
 box:(Kst c).1=4→∃ (g:Nat) (a:List Int),g < n∧g ≤ 15∧c=19 + (g:Int)∧q=c :: a∧Kzr s (19 + (g:Int)) a
 arrB:Ksm c=true ↔ (Kst c).1=3
 boxB:Ksn c=true ↔ (Kst c).1=4
 one:c=1 ↔ (Kst c).1=1
 two:c=2 ↔ (Kst c).1=2
theorem V2d {q:List Int} (hq:TyS s q) {c:Int} {r:List Int} (e:q=c :: r):V2c s n q c:=by
 rcases Kzw hs hq with rfl | ⟨a,b,rfl,P⟩ | ⟨a,b,rfl,P⟩ | ⟨g,a,b,hg,h15,rfl,P⟩ | ⟨g,a,hg,h15,rfl,P⟩
 ·cases e
  refine ⟨fun h=>?_,fun h=>?_,fun h=>?_,fun h=>?_,by decide,by decide,by decide,by decide⟩ <;> exact absurd h (by decide)
 ·cases e
  refine ⟨fun h=>absurd h (by decide),fun _=>⟨a,b,rfl,rfl,P⟩,fun h=>absurd h (by decide),fun h=>absurd h (by decide),by decide,by decide,by decide,by decide⟩
 ·cases e
  refine ⟨fun h=>absurd h (by decide),fun h=>absurd h (by decide),fun _=>⟨a,b,rfl,rfl,P⟩,fun h=>absurd h (by decide),by decide,by decide,by decide,by decide⟩
 ·cases e
  have hsh:=V24 g h15
  refine ⟨fun _=>⟨g,a,b,hg,h15,rfl,rfl,P⟩,fun h=>?_,fun h=>?_,fun h=>?_,?_,?_,?_,?_⟩
  ·rw [hsh] at h; simp at h
  ·rw [hsh] at h; simp at h
  ·rw [hsh] at h; simp at h
  ·rw [hsh,V26 g h15]; simp
  ·rw [hsh,V28 g h15]; simp
  ·rw [hsh]; simp; omega
  ·rw [hsh]; simp; omega
 ·cases e
  have hsh:=V25 g h15
  refine ⟨fun h=>?_,fun h=>?_,fun h=>?_,fun _=>⟨g,_,hg,h15,rfl,rfl,P⟩,?_,?_,?_,?_⟩
  ·rw [hsh] at h; simp at h
  ·rw [hsh] at h; simp at h
  ·rw [hsh] at h; simp at h
  ·rw [hsh,V27 g h15]; simp
  ·rw [hsh,V29 g h15]; simp
  ·rw [hsh]; simp; omega
  ·rw [hsh]; simp; omega
theorem V2e (ih:V1r s n (tsz (⟨10,N,ty,ks⟩:K01))) (h:tOk (gN s.fSize true) (yN s.fSize true) ctx.length ⟨10,N,ty,ks⟩=true) (hc:∀ q ∈ ctx,TyS s q) (hb:ctx.length + 2 * tsz (⟨10,N,ty,ks⟩:K01) ≤ 1000000):∃ x y,V1a s n ctx ⟨10,N,ty,ks⟩ x y:=by
 obtain ⟨k0,k1,rfl,p0,p1⟩:=nd2 h (Nat.le_refl _) rfl
 have hz:=Kxn 10 N ty k0 k1
 obtain ⟨x0,y0,r0⟩:=ih k0 ctx p0 hc (by omega)
 obtain ⟨x1,y1,r1⟩:=ih k1 ctx p1 hc (by omega)
 by_cases f0:x0.ffault=0
 rotate_left
 ·exact V1t (by decide) (by decide) (by decide) hb r0 f0
 obtain ⟨g0,q0,a,na,la,ba⟩:=r0.gd f0
 obtain ⟨c0,t0,ht0,hn0,hz0⟩:=V1w hs g0
 have L0:=Kzn g0
 have e0:Kfa (s,ctx,⟨10,N,ty,[k0,k1]⟩,0)=some x0:=V1b (i:=0) rfl r0 f0
 have C:=V2d hs g0 ht0
 have i0:idx x0.fty 0=some c0:=by rw [ht0]; rfl
 by_cases z0:(Kst c0).1=3
 rotate_left
 ·have w0:Ksm c0=false:=by cases h:Ksm c0 with | true=>exact absurd (C.arrB.1 h) z0 | false=>rfl
  refine V1a.bad (f:=6) (p:=[]) ?_ (V0g (by omega) (V1e (m:=[]) rfl (V1n (by decide)) r0 (by simp; omega) f0 (by rw [ht0,V0n,if_neg z0]) (by decide))) (by decide) (by simp; omega)
  rw [Kf8.eq_def]
  simp [e0,f0,i0,Ksp,w0,Ke1]
 obtain ⟨g,p,q,hg,h15,hcg,hq,P⟩:=C.arr z0
 have w0:Ksm c0=true:=C.arrB.2 z0
 have o0:=V1g (out:=[]) (nd:=[]) (us:=[]) (w:=0) (t:=⟨10,N,ty,[k0,k1]⟩) (m:=[]) rfl (V1n (by decide)) r0 (by simp; omega) f0 (by rw [ht0,V0n,if_pos z0]) (V0j (by decide)) na (by simp <;> omega) (by simp) (by simp) (by simp) (by simp)
 have m1:V05 ⟨10,N,ty,[k0,k1]⟩ [y0] 1=some []:=V1p (by decide) (V1h (by decide) rfl)
 by_cases f1:x1.ffault=0
 rotate_left
 ·have e1:Kfa (s,ctx,⟨10,N,ty,[k0,k1]⟩,1)=some ⟨[],[],x1.ffault,1 :: x1.fpath⟩:=V1c (i:=1) rfl r1 (by omega) f1
  refine V1a.bad (f:=x1.ffault) (p:=1 :: x1.fpath) ?_ (V0g (by omega) (o0.trans (V1d (m:=[]) rfl m1 r1 (by omega) (by simp; omega) f1))) f1 (by have:=r1.pl; simp; omega)
  rw [Kf8.eq_def]
  simp [e0,f0,i0,Ksp,w0,e1,f1]
 obtain ⟨g1,q1,b,nb,lb,bb⟩:=r1.gd f1
 obtain ⟨c1,t1,ht1,hn1,hz1⟩:=V1w hs g1
 have L1:=Kzn g1
 have e1:Kfa (s,ctx,⟨10,N,ty,[k0,k1]⟩,1)=some x1:=V1b (i:=1) rfl r1 f1
 have hp0:Kel (x0.fty,0)=some p:=by rw [hq,hcg]; exact P.p0
 have hp1:Kel (x0.fty,1)=some q:=by rw [hq,hcg]; exact P.p1
 have hpp:Kjg y0.fty=some [p,q]:=by rw [r0.ty,hq,hcg]; exact P.pp
 have Lp:=Kzn P.ya
 have Lq:=Kzn P.yb
 have hsm:=Kxe x1.fty p (by omega)
 have hsi:=Kxg x1.fty p (by omega)
 have ha:V0b ⟨10,N,ty,[k0,k1]⟩ [y0] 1 y1=some (!(x1.fty == p)):=by
  unfold V0b
  rw [if_pos (show ((10:Int) == 10)=true by decide),if_pos (by decide),V0s,bs,hpp,bs,V0s,bs,r1.ty,hsi,bs]
 by_cases hqq:x1.fty=p
 rotate_left
 ·rw [show (x1.fty == p)=false from beq_eq_false_iff_ne.2 hqq] at hsm ha
  refine V1a.bad (f:=3) (p:=[]) ?_ (V0g (by omega) (o0.trans (V1f (m:=[]) rfl m1 r1 (by simp; omega) f1 (by rw [ht1]; exact V0k (.inr (by decide))) ha))) (by decide) (by simp; omega)
  rw [Kf8.eq_def]
  simp [e0,f0,i0,Ksp,w0,e1,f1,hp0,hsm,Ke1]
 rw [show (x1.fty == p)=true from beq_iff_eq.2 hqq] at hsm ha
 have o1:=V1g (out:=[y0]) (nd:=[Kxw a]) (us:=[Kxw []]) (w:=1) (t:=⟨10,N,ty,[k0,k1]⟩) (m:=[]) rfl m1 r1 (by simp; omega) f1 (by rw [ht1]; exact V0k (.inr (by decide))) ha nb (by simp <;> omega) (by simp) (by simp) (by simp) (by simp)
 have hf:=V14 (N:=N) (ty:=ty) (ks:=[k0,k1]) (ctx:=ctx) (us:=[Kxw [],Kxw []]) (z:=Kxw (List.replicate ctx.length 0)) (y0:=y0) (y1:=y1) hs hg (p:=p) (q:=q) (by rw [r0.ty,hq,hcg]) P ba bb (by omega) (by omega)
 have im:=V1s (q:=q) (ns:=Ky9 s n a (Kya s n g b)) (kids:=[y0,y1]) Lq (V0h (p0:=⟨s⟩) (t:=⟨10,N,ty,[k0,k1]⟩) (ctx:=ctx) (by omega) (o0.trans (o1.trans (V08 (Nat.le_refl _)))) hf)
 have lsc:(Kya s n g b).length=ctx.length:=by unfold Kya; rw [List.length_map]; exact lb
 refine V1a.good (q:=q) (ns:=Ky9 s n a (Kya s n g b)) (kids:=[y0,y1]) ?_ im (by omega) P.yb (by unfold Ky9; rw [List.length_zipWith]; omega) (Kyf hs ba (Kyg hs hg bb)) rfl (kd2 (V19.mk' (V1h (by decide) rfl) r0 f0 (fun _ h=>by cases h) rfl) (V19.mk' (V1h (by decide) rfl) r1 f1 (fun _ h=>by cases h) rfl))
 have hgr:Kc6 c0=some (g:Int):=by rw [hcg]; exact V2a g h15
 rw [Kf8.eq_def]
 simp [e0,f0,i0,Ksp,w0,e1,f1,hp0,hp1,hsm,hgr,na,nb,Kyl hs g hg a b ba bb (by omega) (by omega)]
theorem V2f (ih:V1r s n (tsz (⟨5,N,ty,ks⟩:K01))) (h:tOk (gN s.fSize true) (yN s.fSize true) ctx.length ⟨5,N,ty,ks⟩=true) (hc:∀ q ∈ ctx,TyS s q) (hb:ctx.length + 2 * tsz (⟨5,N,ty,ks⟩:K01) ≤ 1000000):∃ x y,V1a s n ctx ⟨5,N,ty,ks⟩ x y:=by
 obtain ⟨k0,k1,rfl,p0,p1⟩:=nd2 h (Nat.le_refl _) rfl
 have hz:=Kxn 5 N ty k0 k1
 obtain ⟨g,hN,hg⟩:=Kzz hs (V01 h rfl)
 simp only at hN
 subst hN
 obtain ⟨x0,y0,r0⟩:=ih k0 ctx p0 hc (by omega)
 by_cases f0:x0.ffault=0
 rotate_left
 ·exact V1t (by decide) (by decide) (by decide) hb r0 f0
 obtain ⟨g0,q0,a,na,la,ba⟩:=r0.gd f0
 obtain ⟨c0,t0,ht0,hn0,hz0⟩:=V1w hs g0
 have L0:=Kzn g0
 have e0:Kfa (s,ctx,⟨5,(g:Int),ty,[k0,k1]⟩,0)=some x0:=V1b (i:=0) rfl r0 f0
 have C:=V2d hs g0 ht0
 have i0:idx x0.fty 0=some c0:=by rw [ht0]; rfl
 by_cases z0:(Kst c0).1=1
 rotate_left
 ·have w0:c0 ≠ 1:=fun h=>z0 (C.one.1 h)
  refine V1a.bad (f:=4) (p:=[]) ?_ (V0g (by omega) (V1e (m:=[]) rfl (V1n (by decide)) r0 (by simp; omega) f0 (by rw [ht0,V0o hs hg,if_neg z0]) (by decide))) (by decide) (by simp; omega)
  rw [Kf8.eq_def]
  simp [e0,f0,i0,Kf9.eq_def,w0,Ke1]
 obtain ⟨p,q,hcg,hq,P⟩:=C.pair z0
 have hle:=sLe hs.tab (Ky3 hs) hg
 cases hl:le s n 1 g with
 | false =>
  have hl2:Kag (s,1,(g:Int))=some false:=by rw [← hl]; exact hle
  refine V1a.bad (f:=8) (p:=[]) ?_ (V0g (by omega) (V1e (m:=[]) rfl (V1n (by decide)) r0 (by simp; omega) f0 (by rw [ht0,V0o hs hg,if_pos z0,hl]; rfl) (by decide))) (by decide) (by simp; omega)
  rw [Kf8.eq_def]
  simp [e0,f0,i0,Kf9.eq_def,hcg,hl2,Ke1]
 | true =>
 have hl2:Kag (s,1,(g:Int))=some true:=by rw [← hl]; exact hle
 have o0:=V1g (out:=[]) (nd:=[]) (us:=[]) (w:=0) (t:=⟨5,(g:Int),ty,[k0,k1]⟩) (m:=[]) rfl (V1n (by decide)) r0 (by simp; omega) f0 (by rw [ht0,V0o hs hg,if_pos z0,hl]; rfl) (V0i (show (5:Int) ≠ 10 by decide)) na (by simp <;> omega) (by simp) (by simp) (by simp) (by simp)
 have hp0:Kel (x0.fty,0)=some p:=by rw [hq,hcg]; exact P.p0
 have hp1:Kel (x0.fty,1)=some q:=by rw [hq,hcg]; exact P.p1
 have ad:Kjj (⟨5,(g:Int),ty,[k0,k1]⟩,((1:Nat):Int),y0.fty)=some [q,p]:=by rw [r0.ty,hq,hcg]; exact V1j P
 have hm':∀ z ∈ [q,p],TyS s z:=fun z hz=>by simp at hz; rcases hz with rfl | rfl; exact P.yb; exact P.ya
 have m1:V05 ⟨5,(g:Int),ty,[k0,k1]⟩ [y0] 1=some [q,p]:=V1p (by decide) ad
 have p1':V00 s ([q,p] ++ ctx).length k1 (tsz (⟨5,(g:Int),ty,[k0,k1]⟩:K01)):=by
  have e:([q,p] ++ ctx).length=ctx.length + Ktz 5 1:=by simp [Ktz]
  rw [e]; exact p1
 obtain ⟨x1,y1,r1⟩:=ih k1 ([q,p] ++ ctx) p1' (fun z hz=>by rcases List.mem_append.1 hz with hz | hz; exact hm' z hz; exact hc z hz) (by simp; omega)
 have hwc:=Kyz ctx [q,p] (by simp; omega)
 by_cases f1:x1.ffault=0
 rotate_left
 ·have e1:Kfa (s,q :: p :: ctx,⟨5,(g:Int),ty,[k0,k1]⟩,1)=some ⟨[],[],x1.ffault,1 :: x1.fpath⟩:=V1c (i:=1) rfl r1 (by omega) f1
  refine V1a.bad (f:=x1.ffault) (p:=1 :: x1.fpath) ?_ (V0g (by omega) (o0.trans (V1d (m:=[q,p]) rfl m1 r1 (by omega) (by simp; omega) f1))) f1 (by have:=r1.pl; simp; omega)
  rw [Kf8.eq_def]
  simp [e0,f0,i0,Kf9.eq_def,hcg,hl2,hp0,hp1,hwc,e1,f1]
 obtain ⟨g1,q1,b,nb,lb,bb⟩:=r1.gd f1
 obtain ⟨c1,t1,ht1,hn1,hz1⟩:=V1w hs g1
 have L1:=Kzn g1
 have e1:Kfa (s,q :: p :: ctx,⟨5,(g:Int),ty,[k0,k1]⟩,1)=some x1:=V1b (i:=1) rfl r1 f1
 have lb':b.length=ctx.length + 2:=by rw [lb]; simp
 obtain ⟨u0,u1,b',rfl⟩:∃ u0 u1 b',b=u0 :: u1 :: b':=by match b,lb' with | u0 :: u1 :: b',_=>exact ⟨u0,u1,b',rfl⟩ | [_],h=>simp at h | [],h=>simp at h
 obtain ⟨hu0,bb1⟩:=Kyd bb
 obtain ⟨hu1,bb'⟩:=Kyd bb1
 have o1:=V1g (out:=[y0]) (nd:=[Kxw a]) (us:=[Kxw []]) (w:=1) (t:=⟨5,(g:Int),ty,[k0,k1]⟩) (m:=[q,p]) rfl m1 r1 (by simp; omega) f1 (by rw [ht1]; exact V0k (.inr (by decide))) (V0i (show (5:Int) ≠ 10 by decide)) nb (by simp <;> omega) (by simp) (by simp) (by simp) (by simp)
 simp only [List.length_cons,List.length_nil,Nat.zero_add,List.drop_succ_cons,List.drop_zero,List.take_succ_cons,List.take_zero,List.nil_append] at o1
 have hl0:=o0.trans (o1.trans (V08 (Nat.le_refl _)))
 have lbc:b'.length=ctx.length:=by simp at lb'; omega
 have i1:idx x1.fneeds 0=some (u0:Int):=by rw [nb]; rfl
 have hcut:cut x1.fneeds (some (2:Int)) none none=some (Kxw b'):=by
  rw [nb]
  have:=V0a (l:=Kxw (u0 :: u1 :: b')) (m:=2) (by simp [Kxw])
  exact this
 have hcp:=Kup (Kxw b') (by rw [Kxx]; omega)
 have i2:idx x1.fneeds 1=some (u1:Int):=by rw [nb]; rfl
 have hle0:=sLe hs.tab hu0 hg
 have hle1:=sLe hs.tab hu1 hg
 have hf:=V15 (ty:=ty) (ks:=[k0,k1]) (ctx:=ctx) (z:=Kxw (List.replicate ctx.length 0)) (y0:=y0) (y1:=y1) (us':=Kxw []) (u:=[u0,u1]) hs hg (fun x hx=>by simp at hx; rcases hx with rfl | rfl; exact hu0; exact hu1) (by simp) ba bb' (by omega) (by omega) (by rw [r1.ty]; omega)
 simp only [List.all_cons,List.all_nil,Bool.and_true] at hf
 have es:=e1
 cases hal:(le s n u0 g && le s n u1 g) with
 | false =>
  rw [hal,if_neg (by decide)] at hf
  refine V1a.bad (f:=9) (p:=[]) ?_ (V0h (by omega) hl0 hf) (by decide) (by simp; omega)
  rw [Kf8.eq_def]
  simp [e0,f0,i0,Kf9.eq_def,hcg,hl2,hp0,hp1,hwc,e1,f1,i1,i2,hcut,hcp,hle0,hle1,Ke1]
  cases q1:le s n u1 g with
  | false=>simp
  | true=>rw [q1,Bool.and_true] at hal; simp [hal]
 | true =>
  rw [hal,if_pos rfl] at hf
  have im:=V1s (q:=y1.fty) (ns:=Ky9 s n (Kya s n g a) b') (kids:=[y0,y1]) (by rw [r1.ty]; omega) (V0h (by omega) hl0 hf)
  rw [r1.ty] at im
  have lsc:(Kya s n g a).length=ctx.length:=by unfold Kya; rw [List.length_map]; exact la
  have hsc:=Kyg hs hg ba
  have hz0:=Kyj hs hsc
  rw [lsc] at hz0
  have hsum:=Kyl hs g hg (List.replicate ctx.length 0) a (fun x hx=>by rw [List.eq_of_mem_replicate hx]; exact Ky4 hs) ba (by simp; omega) (by simp [la])
  rw [hz0] at hsum
  have hs2:=Kym hs (Kya s n g a) b' hsc bb' (by omega) (by omega)
  refine V1a.good (q:=x1.fty) (ns:=Ky9 s n (Kya s n g a) b') (kids:=[y0,y1]) ?_ im (by omega) g1 (by unfold Ky9; rw [List.length_zipWith]; omega) (Kyf hs hsc bb') rfl (kd2 (V19.mk' (V1h (by decide) rfl) r0 f0 (fun _ h=>by cases h) rfl) (V19.mk' ad r1 f1 hm' rfl))
  rw [Kf8.eq_def]
  rw [Bool.and_eq_true] at hal
  simp [e0,f0,i0,Kf9.eq_def,hcg,hl2,hp0,hp1,hwc,e1,f1,i1,i2,hcut,hcp,hle0,hle1,hal.1,hal.2,na,Kyy ctx.length (by omega),hsum,hs2]
theorem V2g (ih:V1r s n (tsz (⟨12,N,ty,ks⟩:K01))) (h:tOk (gN s.fSize true) (yN s.fSize true) ctx.length ⟨12,N,ty,ks⟩=true) (hc:∀ q ∈ ctx,TyS s q) (hb:ctx.length + 2 * tsz (⟨12,N,ty,ks⟩:K01) ≤ 1000000):∃ x y,V1a s n ctx ⟨12,N,ty,ks⟩ x y:=by
 obtain ⟨k0,k1,rfl,p0,p1⟩:=nd2 h (Nat.le_refl _) rfl
 have hz:=Kxn 12 N ty k0 k1
 obtain ⟨g,hN,hg⟩:=Kzz hs (V01 h rfl)
 simp only at hN
 subst hN
 obtain ⟨x0,y0,r0⟩:=ih k0 ctx p0 hc (by omega)
 by_cases f0:x0.ffault=0
 rotate_left
 ·exact V1t (by decide) (by decide) (by decide) hb r0 f0
 obtain ⟨g0,q0,a,na,la,ba⟩:=r0.gd f0
 obtain ⟨c0,t0,ht0,hn0,hz0⟩:=V1w hs g0
 have L0:=Kzn g0
 have e0:Kfa (s,ctx,⟨12,(g:Int),ty,[k0,k1]⟩,0)=some x0:=V1b (i:=0) rfl r0 f0
 have C:=V2d hs g0 ht0
 have i0:idx x0.fty 0=some c0:=by rw [ht0]; rfl
 by_cases z0:(Kst c0).1=4
 rotate_left
 ·have w0:Ksn c0=false:=by cases h:Ksn c0 with | true=>exact absurd (C.boxB.1 h) z0 | false=>rfl
  refine V1a.bad (f:=7) (p:=[]) ?_ (V0g (by omega) (V1e (m:=[]) rfl (V1n (by decide)) r0 (by simp; omega) f0 (by rw [ht0,V0q hs hg,if_neg z0]) (by decide))) (by decide) (by simp; omega)
  rw [Kf8.eq_def]
  simp [e0,f0,i0,Kf9.eq_def,Ksq,w0,Ke1]
 obtain ⟨m,p,hm,h15,hcg,hq,P⟩:=C.box z0
 have w0:Ksn c0=true:=C.boxB.2 z0
 have hle:=sLe hs.tab (Ky3 hs) hg
 cases hl:le s n 1 g with
 | false =>
  have hl2:Kag (s,1,(g:Int))=some false:=by rw [← hl]; exact hle
  refine V1a.bad (f:=8) (p:=[]) ?_ (V0g (by omega) (V1e (m:=[]) rfl (V1n (by decide)) r0 (by simp; omega) f0 (by rw [ht0,V0q hs hg,if_pos z0,hl]; rfl) (by decide))) (by decide) (by simp; omega)
  rw [Kf8.eq_def]
  simp [e0,f0,i0,Kf9.eq_def,Ksq,w0,hl2,Ke1]
 | true =>
 have hl2:Kag (s,1,(g:Int))=some true:=by rw [← hl]; exact hle
 have o0:=V1g (out:=[]) (nd:=[]) (us:=[]) (w:=0) (t:=⟨12,(g:Int),ty,[k0,k1]⟩) (m:=[]) rfl (V1n (by decide)) r0 (by simp; omega) f0 (by rw [ht0,V0q hs hg,if_pos z0,hl]; rfl) (V0i (show (12:Int) ≠ 10 by decide)) na (by simp <;> omega) (by simp) (by simp) (by simp) (by simp)
 have hp0:Kel (x0.fty,0)=some p:=by rw [hq,hcg]; exact P.p0
 have ad:Kjj (⟨12,(g:Int),ty,[k0,k1]⟩,((1:Nat):Int),y0.fty)=some [p]:=by rw [r0.ty,hq,hcg]; exact V1m P
 have hm':∀ z ∈ [p],TyS s z:=fun z hz=>by simp at hz; rw [hz]; exact P.ya
 have hgr:Kc6 c0=some (m:Int):=by rw [hcg]; exact V2b m h15
 have m1:V05 ⟨12,(g:Int),ty,[k0,k1]⟩ [y0] 1=some [p]:=V1p (by decide) ad
 have p1':V00 s ([p] ++ ctx).length k1 (tsz (⟨12,(g:Int),ty,[k0,k1]⟩:K01)):=by
  have e:([p] ++ ctx).length=ctx.length + Ktz 12 1:=by simp [Ktz]
  rw [e]; exact p1
 obtain ⟨x1,y1,r1⟩:=ih k1 ([p] ++ ctx) p1' (fun z hz=>by rcases List.mem_append.1 hz with hz | hz; exact hm' z hz; exact hc z hz) (by simp; omega)
 have hwc:=Kyz ctx [p] (by simp; omega)
 by_cases f1:x1.ffault=0
 rotate_left
 ·have e1:Kfa (s,p :: ctx,⟨12,(g:Int),ty,[k0,k1]⟩,1)=some ⟨[],[],x1.ffault,1 :: x1.fpath⟩:=V1c (i:=1) rfl r1 (by omega) f1
  refine V1a.bad (f:=x1.ffault) (p:=1 :: x1.fpath) ?_ (V0g (by omega) (o0.trans (V1d (m:=[p]) rfl m1 r1 (by omega) (by simp; omega) f1))) f1 (by have:=r1.pl; simp; omega)
  rw [Kf8.eq_def]
  simp [e0,f0,i0,Kf9.eq_def,Ksq,w0,hl2,hp0,hwc,e1,f1]
 obtain ⟨g1,q1,b,nb,lb,bb⟩:=r1.gd f1
 obtain ⟨c1,t1,ht1,hn1,hz1⟩:=V1w hs g1
 have L1:=Kzn g1
 have e1:Kfa (s,p :: ctx,⟨12,(g:Int),ty,[k0,k1]⟩,1)=some x1:=V1b (i:=1) rfl r1 f1
 have lb':b.length=ctx.length + 1:=by rw [lb]; simp
 obtain ⟨u0,b',rfl⟩:∃ u0 b',b=u0 :: b':=by match b,lb' with | u0 :: b',_=>exact ⟨u0,b',rfl⟩ | [],h=>simp at h
 obtain ⟨hu0,bb'⟩:=Kyd bb
 have o1:=V1g (out:=[y0]) (nd:=[Kxw a]) (us:=[Kxw []]) (w:=1) (t:=⟨12,(g:Int),ty,[k0,k1]⟩) (m:=[p]) rfl m1 r1 (by simp; omega) f1 (by rw [ht1]; exact V0k (.inr (by decide))) (V0i (show (12:Int) ≠ 10 by decide)) nb (by simp <;> omega) (by simp) (by simp) (by simp) (by simp)
 simp only [List.length_cons,List.length_nil,Nat.zero_add,List.drop_succ_cons,List.drop_zero,List.take_succ_cons,List.take_zero,List.nil_append] at o1
 have hl0:=o0.trans (o1.trans (V08 (Nat.le_refl _)))
 have lbc:b'.length=ctx.length:=by simp at lb'; omega
 have i1:idx x1.fneeds 0=some (u0:Int):=by rw [nb]; rfl
 have hcut:cut x1.fneeds (some (1:Int)) none none=some (Kxw b'):=by
  rw [nb]
  have:=V0a (l:=Kxw (u0 :: b')) (m:=1) (by simp [Kxw])
  exact this
 have hcp:=Kup (Kxw b') (by rw [Kxx]; omega)
 have hmul:=Krs hs.tab hg hm
 have htm:=Krn hs.tab hg hm
 have hle0:=sLe hs.tab hu0 htm
 have hf:=V16 (ty:=ty) (ks:=[k0,k1]) (ctx:=ctx) (z:=Kxw (List.replicate ctx.length 0)) (y0:=y0) (y1:=y1) (us':=Kxw []) (u:=[u0]) hs hg hm (p:=p) (by rw [r0.ty,hq,hcg]) (fun x hx=>by simp at hx; rw [hx]; exact hu0) (by simp) ba bb' (by omega) (by omega) (by rw [r1.ty]; omega)
 simp only [List.all_cons,List.all_nil,Bool.and_true] at hf
 have es:=e1
 cases hal:(le s n u0 (ti s n g m)) with
 | false =>
  rw [hal,if_neg (by decide)] at hf
  refine V1a.bad (f:=9) (p:=[]) ?_ (V0h (by omega) hl0 hf) (by decide) (by simp; omega)
  rw [Kf8.eq_def]
  simp [e0,f0,i0,Kf9.eq_def,Ksq,w0,hl2,hp0,hwc,e1,f1,i1,hcut,hcp,hgr,hmul,hle0,hal,Ke1]
 | true =>
  rw [hal,if_pos rfl] at hf
  have im:=V1s (q:=y1.fty) (ns:=Ky9 s n (Kya s n g a) b') (kids:=[y0,y1]) (by rw [r1.ty]; omega) (V0h (by omega) hl0 hf)
  rw [r1.ty] at im
  have lsc:(Kya s n g a).length=ctx.length:=by unfold Kya; rw [List.length_map]; exact la
  have hsc:=Kyg hs hg ba
  have hz0:=Kyj hs hsc
  rw [lsc] at hz0
  have hsum:=Kyl hs g hg (List.replicate ctx.length 0) a (fun x hx=>by rw [List.eq_of_mem_replicate hx]; exact Ky4 hs) ba (by simp; omega) (by simp [la])
  rw [hz0] at hsum
  have hs2:=Kym hs (Kya s n g a) b' hsc bb' (by omega) (by omega)
  refine V1a.good (q:=x1.fty) (ns:=Ky9 s n (Kya s n g a) b') (kids:=[y0,y1]) ?_ im (by omega) g1 (by unfold Ky9; rw [List.length_zipWith]; omega) (Kyf hs hsc bb') rfl (kd2 (V19.mk' (V1h (by decide) rfl) r0 f0 (fun _ h=>by cases h) rfl) (V19.mk' ad r1 f1 hm' rfl))
  rw [Kf8.eq_def]
  simp [e0,f0,i0,Kf9.eq_def,Ksq,w0,hl2,hp0,hwc,e1,f1,i1,hcut,hcp,hgr,hmul,hle0,hal,na,Kyy ctx.length (by omega),hsum,hs2]
theorem V2h (ih:V1r s n (tsz (⟨8,N,ty,ks⟩:K01))) (h:tOk (gN s.fSize true) (yN s.fSize true) ctx.length ⟨8,N,ty,ks⟩=true) (hc:∀ q ∈ ctx,TyS s q) (hb:ctx.length + 2 * tsz (⟨8,N,ty,ks⟩:K01) ≤ 1000000):∃ x y,V1a s n ctx ⟨8,N,ty,ks⟩ x y:=by
 obtain ⟨k0,k1,k2,rfl,p0,p1,p2⟩:=nd3 h (Nat.le_refl _) rfl
 have hz:=Kxo 8 N ty k0 k1 k2
 obtain ⟨g,hN,hg⟩:=Kzz hs (V01 h rfl)
 simp only at hN
 subst hN
 obtain ⟨x0,y0,r0⟩:=ih k0 ctx p0 hc (by omega)
 by_cases f0:x0.ffault=0
 rotate_left
 ·exact V1t (by decide) (by decide) (by decide) hb r0 f0
 obtain ⟨g0,q0,a,na,la,ba⟩:=r0.gd f0
 obtain ⟨c0,t0,ht0,hn0,hz0⟩:=V1w hs g0
 have L0:=Kzn g0
 have e0:Kfa (s,ctx,⟨8,(g:Int),ty,[k0,k1,k2]⟩,0)=some x0:=V1b (i:=0) rfl r0 f0
 have C:=V2d hs g0 ht0
 have i0:idx x0.fty 0=some c0:=by rw [ht0]; rfl
 by_cases z0:(Kst c0).1=2
 rotate_left
 ·have w0:c0 ≠ 2:=fun h=>z0 (C.two.1 h)
  refine V1a.bad (f:=5) (p:=[]) ?_ (V0g (by omega) (V1e (m:=[]) rfl (V1n (by decide)) r0 (by simp; omega) f0 (by rw [ht0,V0p hs hg,if_neg z0]) (by decide))) (by decide) (by simp; omega)
  rw [Kf8.eq_def]
  simp [e0,f0,i0,Kf9.eq_def,w0,Ke1]
 obtain ⟨p,q,hcg,hq,P⟩:=C.sum z0
 have hle:=sLe hs.tab (Ky3 hs) hg
 cases hl:le s n 1 g with
 | false =>
  have hl2:Kag (s,1,(g:Int))=some false:=by rw [← hl]; exact hle
  refine V1a.bad (f:=8) (p:=[]) ?_ (V0g (by omega) (V1e (m:=[]) rfl (V1n (by decide)) r0 (by simp; omega) f0 (by rw [ht0,V0p hs hg,if_pos z0,hl]; rfl) (by decide))) (by decide) (by simp; omega)
  rw [Kf8.eq_def]
  simp [e0,f0,i0,Kf9.eq_def,hcg,hl2,Ke1]
 | true =>
 have hl2:Kag (s,1,(g:Int))=some true:=by rw [← hl]; exact hle
 have o0:=V1g (out:=[]) (nd:=[]) (us:=[]) (w:=0) (t:=⟨8,(g:Int),ty,[k0,k1,k2]⟩) (m:=[]) rfl (V1n (by decide)) r0 (by simp; omega) f0 (by rw [ht0,V0p hs hg,if_pos z0,hl]; rfl) (V0i (show (8:Int) ≠ 10 by decide)) na (by simp <;> omega) (by simp) (by simp) (by simp) (by simp)
 have hp0:Kel (x0.fty,0)=some p:=by rw [hq,hcg]; exact P.p0
 have hp1:Kel (x0.fty,1)=some q:=by rw [hq,hcg]; exact P.p1
 have ad1:Kjj (⟨8,(g:Int),ty,[k0,k1,k2]⟩,((1:Nat):Int),y0.fty)=some [p]:=by rw [r0.ty,hq,hcg]; exact V1k P
 have ad2:Kjj (⟨8,(g:Int),ty,[k0,k1,k2]⟩,((2:Nat):Int),y0.fty)=some [q]:=by rw [r0.ty,hq,hcg]; exact V1l P
 have hm1:∀ z ∈ [p],TyS s z:=fun z hz=>by simp at hz; rw [hz]; exact P.ya
 have hm2:∀ z ∈ [q],TyS s z:=fun z hz=>by simp at hz; rw [hz]; exact P.yb
 have m1:V05 ⟨8,(g:Int),ty,[k0,k1,k2]⟩ [y0] 1=some [p]:=V1p (by decide) ad1
 have p1':V00 s ([p] ++ ctx).length k1 (tsz (⟨8,(g:Int),ty,[k0,k1,k2]⟩:K01)):=by
  have e:([p] ++ ctx).length=ctx.length + Ktz 8 1:=by simp [Ktz]
  rw [e]; exact p1
 obtain ⟨x1,y1,r1⟩:=ih k1 ([p] ++ ctx) p1' (fun z hz=>by rcases List.mem_append.1 hz with hz | hz; exact hm1 z hz; exact hc z hz) (by simp; omega)
 have hw1:=Kyz ctx [p] (by simp; omega)
 by_cases f1:x1.ffault=0
 rotate_left
 ·have e1:Kfa (s,p :: ctx,⟨8,(g:Int),ty,[k0,k1,k2]⟩,1)=some ⟨[],[],x1.ffault,1 :: x1.fpath⟩:=V1c (i:=1) rfl r1 (by omega) f1
  refine V1a.bad (f:=x1.ffault) (p:=1 :: x1.fpath) ?_ (V0g (by omega) (o0.trans (V1d (m:=[p]) rfl m1 r1 (by omega) (by simp; omega) f1))) f1 (by have:=r1.pl; simp; omega)
  rw [Kf8.eq_def]
  simp [e0,f0,i0,Kf9.eq_def,hcg,hl2,hp0,hp1,hw1,e1,f1]
 obtain ⟨g1,q1,b,nb,lb,bb⟩:=r1.gd f1
 obtain ⟨c1,t1,ht1,hn1,hz1⟩:=V1w hs g1
 have L1:=Kzn g1
 have e1:Kfa (s,p :: ctx,⟨8,(g:Int),ty,[k0,k1,k2]⟩,1)=some x1:=V1b (i:=1) rfl r1 f1
 have lb':b.length=ctx.length + 1:=by rw [lb]; simp
 obtain ⟨u0,b',rfl⟩:∃ u0 b',b=u0 :: b':=by match b,lb' with | u0 :: b',_=>exact ⟨u0,b',rfl⟩ | [],h=>simp at h
 obtain ⟨hu0,bb'⟩:=Kyd bb
 have lbc:b'.length=ctx.length:=by simp at lb'; omega
 have i1:idx x1.fneeds 0=some (u0:Int):=by rw [nb]; rfl
 have hcut1:cut x1.fneeds (some (1:Int)) none none=some (Kxw b'):=by rw [nb]; exact Kx3 _ _
 have hcp1:=Kup (Kxw b') (by rw [Kxx]; omega)
 have o1:=V1g (out:=[y0]) (nd:=[Kxw a]) (us:=[Kxw []]) (w:=1) (t:=⟨8,(g:Int),ty,[k0,k1,k2]⟩) (m:=[p]) rfl m1 r1 (by simp; omega) f1 (by rw [ht1]; exact V0k (.inr (by decide))) (V0i (show (8:Int) ≠ 10 by decide)) nb (by simp <;> omega) (by simp) (by simp) (by simp) (by simp)
 simp only [List.length_cons,List.length_nil,Nat.zero_add,List.drop_succ_cons,List.drop_zero,List.take_succ_cons,List.take_zero,List.nil_append,List.cons_append] at o1
 have m2:V05 ⟨8,(g:Int),ty,[k0,k1,k2]⟩ [y0,y1] 2=some [q]:=V1p (by decide) ad2
 have p2':V00 s ([q] ++ ctx).length k2 (tsz (⟨8,(g:Int),ty,[k0,k1,k2]⟩:K01)):=by
  have e:([q] ++ ctx).length=ctx.length + Ktz 8 2:=by simp [Ktz]
  rw [e]; exact p2
 obtain ⟨x2,y2,r2⟩:=ih k2 ([q] ++ ctx) p2' (fun z hz=>by rcases List.mem_append.1 hz with hz | hz; exact hm2 z hz; exact hc z hz) (by simp; omega)
 have hw2:=Kyz ctx [q] (by simp; omega)
 by_cases f2:x2.ffault=0
 rotate_left
 ·have e2:Kfa (s,q :: ctx,⟨8,(g:Int),ty,[k0,k1,k2]⟩,2)=some ⟨[],[],x2.ffault,2 :: x2.fpath⟩:=V1c (i:=2) rfl r2 (by omega) f2
  refine V1a.bad (f:=x2.ffault) (p:=2 :: x2.fpath) ?_ (V0g (by omega) (o0.trans (o1.trans (V1d (m:=[q]) rfl m2 r2 (by omega) (by simp; omega) f2)))) f2 (by have:=r2.pl; simp; omega)
  rw [Kf8.eq_def]
  simp [e0,f0,i0,Kf9.eq_def,hcg,hl2,hp0,hp1,hw1,e1,f1,hcut1,hcp1,hw2,e2,f2]
 obtain ⟨g2,q2,d,nd,ld,bd⟩:=r2.gd f2
 obtain ⟨c2,t2,ht2,hn2,hz2⟩:=V1w hs g2
 have L2:=Kzn g2
 have e2:Kfa (s,q :: ctx,⟨8,(g:Int),ty,[k0,k1,k2]⟩,2)=some x2:=V1b (i:=2) rfl r2 f2
 have ld':d.length=ctx.length + 1:=by rw [ld]; simp
 obtain ⟨v0,d',rfl⟩:∃ v0 d',d=v0 :: d':=by match d,ld' with | v0 :: d',_=>exact ⟨v0,d',rfl⟩ | [],h=>simp at h
 obtain ⟨hv0,bd'⟩:=Kyd bd
 have ldc:d'.length=ctx.length:=by simp at ld'; omega
 have i2:idx x2.fneeds 0=some (v0:Int):=by rw [nd]; rfl
 have hcut2:cut x2.fneeds (some (1:Int)) none none=some (Kxw d'):=by rw [nd]; exact Kx3 _ _
 have o2:=V1g (out:=[y0,y1]) (nd:=[Kxw a,Kxw b']) (us:=[Kxw [],Kxw [u0]]) (w:=2) (t:=⟨8,(g:Int),ty,[k0,k1,k2]⟩) (m:=[q]) rfl m2 r2 (by simp; omega) f2 (by rw [ht2]; exact V0k (.inr (by decide))) (V0i (show (8:Int) ≠ 10 by decide)) nd (by simp <;> omega) (by simp) (by simp) (by simp) (by simp)
 simp only [List.length_cons,List.length_nil,Nat.zero_add,List.drop_succ_cons,List.drop_zero,List.take_succ_cons,List.take_zero,List.nil_append,List.cons_append] at o2
 have hl0:=o0.trans (o1.trans (o2.trans (V08 (Nat.le_refl _))))
 have hle0:=sLe hs.tab hu0 hg
 have hle1:=sLe hs.tab hv0 hg
 have hf:=V17 (ty:=ty) (ks:=[k0,k1,k2]) (ctx:=ctx) (z:=Kxw (List.replicate ctx.length 0)) (y0:=y0) (y1:=y1) (y2:=y2) (us':=Kxw []) (u:=[u0]) (v:=[v0]) hs hg (fun x hx=>by simp at hx; rw [hx]; exact hu0) (by simp) (fun x hx=>by simp at hx; rw [hx]; exact hv0) (by simp) ba bb' bd' (by omega) (by omega) (by omega) (by rw [r2.ty]; omega) (by rw [r1.ty]; omega)
 simp only [List.all_cons,List.all_nil,Bool.and_true] at hf
 rw [r1.ty,r2.ty] at hf
 have hsm:=Kxe x1.fty x2.fty (by omega)
 have hj:=Kyo hs b' d' bb' bd' (by omega) (by omega)
 have lj:(Kyb s n b' d').length=ctx.length:=by unfold Kyb; rw [List.length_zipWith]; omega
 by_cases hqq:x1.fty=x2.fty
 rotate_left
 ·rw [if_neg hqq] at hf
  rw [show (x1.fty == x2.fty)=false from beq_eq_false_iff_ne.2 hqq] at hsm
  refine V1a.bad (f:=3) (p:=[]) ?_ (V0h (by omega) hl0 hf) (by decide) (by simp; omega)
  rw [Kf8.eq_def]
  simp [e0,f0,i0,Kf9.eq_def,hcg,hl2,hp0,hp1,hw1,e1,f1,hcut1,hcp1,hw2,e2,f2,hsm,Ke1]
 rw [if_pos hqq] at hf
 rw [show (x1.fty == x2.fty)=true from beq_iff_eq.2 hqq] at hsm
 by_cases hal:le s n u0 g=true∧le s n v0 g=true
 rotate_left
 ·rw [if_neg hal] at hf
  refine V1a.bad (f:=9) (p:=[]) ?_ (V0h (by omega) hl0 hf) (by decide) (by simp; omega)
  rw [Kf8.eq_def]
  simp [e0,f0,i0,Kf9.eq_def,hcg,hl2,hp0,hp1,hw1,e1,f1,hcut1,hcp1,hw2,e2,f2,hsm,i1,i2,hle0,hle1,hcut2,hj,Ke1]
  cases q1:le s n v0 g with
  | false=>simp
  | true =>
   cases q2:le s n u0 g with
   | false=>simp
   | true=>exact absurd ⟨q2,q1⟩ hal
 rw [if_pos hal] at hf
 have im:=V1s (q:=x1.fty) (ns:=Ky9 s n (Kya s n g a) (Kyb s n b' d')) (kids:=[y0,y1,y2]) (by omega) (V0h (by omega) hl0 hf)
 have lsc:(Kya s n g a).length=ctx.length:=by unfold Kya; rw [List.length_map]; exact la
 have hsc:=Kyg hs hg ba
 have hz0:=Kyj hs hsc
 rw [lsc] at hz0
 have hsum:=Kyl hs g hg (List.replicate ctx.length 0) a (fun x hx=>by rw [List.eq_of_mem_replicate hx]; exact Ky4 hs) ba (by simp; omega) (by simp [la])
 rw [hz0] at hsum
 have hs2:=Kym hs (Kya s n g a) (Kyb s n b' d') hsc (Kyh hs bb' bd') (by omega) (by omega)
 refine V1a.good (q:=x1.fty) (ns:=Ky9 s n (Kya s n g a) (Kyb s n b' d')) (kids:=[y0,y1,y2]) ?_ im (by omega) g1 (by unfold Ky9; rw [List.length_zipWith]; omega) (Kyf hs hsc (Kyh hs bb' bd')) rfl (kd3 (V19.mk' (V1h (by decide) rfl) r0 f0 (fun _ h=>by cases h) rfl) (V19.mk' ad1 r1 f1 hm1 rfl) (V19.mk' ad2 r2 f2 hm2 rfl))
 rw [Kf8.eq_def]
 simp [e0,f0,i0,Kf9.eq_def,hcg,hl2,hp0,hp1,hw1,e1,f1,hcut1,hcp1,hw2,e2,f2,hsm,i1,i2,hle0,hle1,hal.1,hal.2,hcut2,hj,na,Kyy ctx.length (by omega),hsum,hs2]
theorem V2i:∀ (m:Nat) (t:K01) (ctx:List (List Int)),tsz t ≤ m→tOk (gN s.fSize true) (yN s.fSize true) ctx.length t=true→(∀ q ∈ ctx,TyS s q)→ctx.length + 2 * tsz t ≤ 1000000→∃ x y,V1a s n ctx t x y
 | 0,t,ctx,hm,_,_,_=>by obtain ⟨op,N,ty,ks⟩:=t; rw [tsz] at hm; omega
 | m + 1,t,ctx,hm,h,hc,hb=>by
  have ih:V1r s n (tsz t):=fun k c hk hc hb=>V2i m k c (by have:=hk.sz; omega) hk.ok hc hb
  obtain ⟨op,N,ty,ks⟩:=t
  have hop:=(Kuo (Kum h).1).1
  simp only at hop
  rcases Ktt hop with rfl | rfl | rfl | rfl | rfl | rfl | rfl | rfl | rfl | rfl | rfl | rfl | rfl
  ·exact V1u hs rfl h hc hb
  ·exact V1v hs rfl h hb
  ·exact V22 hs ih h hc hb
  ·exact V23 hs ih h hc hb
  ·exact V21 hs ih h hc hb
  ·exact V2f hs ih h hc hb
  ·exact V1x hs ih h hc hb
  ·exact V1y hs ih h hc hb
  ·exact V2h hs ih h hc hb
  ·exact V20 hs ih h hc hb
  ·exact V2e hs ih h hc hb
  ·exact V1z hs ih h hc hb
  ·exact V2g hs ih h hc hb
end
theorem V2j {l:List (List Int)} {v:List Int} (h:v ∈ l):v.length ≤ lms l:=by
 have:=Kww h
 unfold lms; omega
theorem V2k {s:K00} {ctx:List (List Int)} {t:K01} (h:Kzk s ctx t=true):Ky1 s s.fSize.toNat∧ctx.length ≤ 8∧(∀ q ∈ ctx,TyS s q)∧tsz t ≤ 400∧tOk (gN s.fSize true) (yN s.fSize true) ctx.length t=true:=by
 unfold Kzk Kza Kxk at h
 simp only [Bool.and_eq_true,decide_eq_true_eq,List.all_eq_true] at h
 exact ⟨Ky2 h.1.1,h.1.2.1,fun q hq=>h.1.2.2 q hq,h.2.1.2,h.2.2⟩
theorem V2l {s:K00} {ctx:List (List Int)} {t:K01} (h:Kzk s ctx t=true):∃ x y,V1a s s.fSize.toNat ctx t x y:=by
 obtain ⟨h1,h2,h3,h4,h5⟩:=V2k h
 exact V2i h1 (tsz t) t ctx (Nat.le_refl _) h5 h3 (by omega)
theorem V2m {s:K00} {ctx:List (List Int)} {t:K01} (hc:lms ctx ≤ 1048576) (ht:tms t ≤ 1099511627776) :
  (Kzk s ctx t=false∧Kdp (s,ctx,t)=some false∧Kmy (s,ctx,t)=some none) ∨
  (Kzk s ctx t=true∧Kdp (s,ctx,t)=some true∧∃ x y,V1a s s.fSize.toNat ctx t x y∧Kmy (s,ctx,t)=some (some y)):=by
 have hl:∀ ty ∈ ctx,ty.length ≤ 1099511627776:=fun ty h=>by have:=V2j h; omega
 have hc':ctx.length ≤ 1048576:=by unfold lms at hc; omega
 have h1:=Kzl s ctx t hc' hl ht
 have h2:=Kzm s ctx t hc' hl ht
 cases h:Kzk s ctx t with
 | false=>rw [h] at h1 h2; exact .inl ⟨rfl,h1,by simpa using h2⟩
 | true =>
  rw [h] at h1 h2
  obtain ⟨x,y,r⟩:=V2l h
  refine .inr ⟨rfl,h1,x,y,r,?_⟩
  rw [if_pos rfl,r.im,bs] at h2
  exact h2
def jct:List K02→Nat
 | []=>0
 | x :: l=>jms x + jct l
def V2n (l:List K02):Nat:=l.length + jct l
theorem V2o:∀ (l a:List K02) (i:Nat),a.drop i=l→a.length ≤ 1099511627776→jct l ≤ 1099511627776→Koj (a,a,(i:Int))=some (.inl ()):=by
 intro l
 induction l with
 | nil =>
  intro a i hd ha hl
  rw [Koj.eq_def]
  simp only
  rw [Kr7 (Ksl hd)]; rfl
 | cons x l ih =>
  intro a i hd ha hl
  obtain ⟨hi,hx,hd'⟩:=Ksk hd
  rw [jct] at hl
  rw [Koj.eq_def]
  simp only
  rw [Kr6 hi,if_pos rfl,hx,bs,bs,Kxv x (by omega),bs,if_pos rfl,Kr5 (by omega)]
  exact ih a (i + 1) hd' ha (by omega)
theorem V2p (a:List K02) (h:V2n a ≤ 1099511627776):Kom (a,a)=some true:=by
 unfold V2n at h
 unfold Kom
 simp only
 have h0:=V2o a a 0 rfl (by omega) (by omega)
 rw [show ((0:Nat):Int)=0 from rfl] at h0
 rw [Krd,if_neg (by decide),h0,bs]
structure V2q (s:K00) (ctx:List (List Int)) (t:K01) (y:K04):Prop where
 ok:tOk (gN s.fSize true) (yN s.fSize true) ctx.length t=true
 cx:∀ q ∈ ctx,TyS s q
 bd:ctx.length + 2 * tsz t ≤ 1000000
 im:Kmr (⟨s⟩,ctx,t)=some y
 fa:y.ffault=0
section
variable {s:K00} {n:Nat} (hs:Ky1 s n) {ctx:List (List Int)} {t:K01} {y:K04}
include hs
theorem V2q.tell (g:V2q s ctx t y):∃ x,V1a s n ctx t x y∧x.ffault=0∧x.fty=y.fty∧TyS s y.fty:=by
 obtain ⟨x,y',r⟩:=V2i hs (tsz t) t ctx (Nat.le_refl _) g.ok g.cx g.bd
 have e:=r.im
 rw [g.im] at e
 cases e
 have hf:x.ffault=0:=by rw [← r.fa]; exact g.fa
 exact ⟨x,r,hf,r.ty.symm,by rw [r.ty]; exact (r.gd hf).1⟩
theorem V2q.many (g:V2q s ctx t y):y.fkids.length=t.fKids.length:=by
 obtain ⟨x,r,hf,_⟩:=g.tell hs
 exact (r.kd hf).1
theorem V2q.kid (g:V2q s ctx t y) {i:Nat} {k:K01} (hk:t.fKids[i]?=some k):∃ yk,y.fkids[i]?=some yk∧V2q s (V18 t i y.fkids ++ ctx) k yk∧(V18 t i y.fkids).length=Ktz t.fOp i:=by
 obtain ⟨x,r,hf,_⟩:=g.tell hs
 obtain ⟨yk,h1,h2⟩:=(r.kd hf).2 i k hk
 obtain ⟨hi,hg⟩:=List.getElem?_eq_some_iff.1 hk
 have hm:k ∈ t.fKids:=hg ▸ List.getElem_mem hi
 have h3:=Kx4 t.fKids t.fOp ctx.length 0 i hi (Kum g.ok).2
 rw [hg,Nat.zero_add] at h3
 have h4:=Kw3 hm
 have h5:=Ku0 t.fOp (i:Int)
 have h6:=g.bd
 have h7:=h2.ln
 refine ⟨yk,h1,⟨?_,?_,?_,h2.im,h2.fa⟩,h7⟩
 ·rw [List.length_append,h7,Nat.add_comm]; exact h3
 ·intro q hq
  rcases List.mem_append.1 hq with hq | hq
  ·exact h2.ty q hq
  ·exact g.cx q hq
 ·rw [List.length_append,h7]; omega
theorem V2q.first (g:V2q s ctx t y) (h0:0 < t.fKids.length) (ha:Ktz t.fOp ((0:Nat):Int)=0):∃ k0 y0 x0 l,t.fKids[0]?=some k0∧y.fkids=y0 :: l∧(V1a s n ctx k0 x0 y0∧x0.ffault=0)∧Kf8 (s,ctx,k0)=some x0∧x0.fty=y0.fty∧TyS s y0.fty:=by
 have hk:t.fKids[0]?=some t.fKids[0]:=List.getElem?_eq_getElem h0
 obtain ⟨y0,h1,h2,h3⟩:=g.kid hs hk
 rw [ha] at h3
 rw [List.eq_nil_of_length_eq_zero h3,List.nil_append] at h2
 obtain ⟨x0,r,hf,h4,h5⟩:=h2.tell hs
 cases e:y.fkids with
 | nil=>rw [e] at h1; cases h1
 | cons z l =>
  rw [e] at h1
  cases h1
  exact ⟨_,_,x0,l,hk,rfl,⟨r,hf⟩,r.sp,h4,h5⟩
theorem V2q.inner (g:V2q s ctx t y) {i:Nat} (hi:i < t.fKids.length) :
  (Ktz t.fOp (i:Int)=0∧V18 t i y.fkids=[]) ∨
  (t.fOp=9∧Ktz t.fOp (i:Int)=1∧V18 t i y.fkids=[t.fType]) ∨
  (t.fOp=5∧Ktz t.fOp (i:Int)=2∧∃ k0 x0 a b,t.fKids[0]?=some k0∧Kf8 (s,ctx,k0)=some x0∧Kel (x0.fty,0)=some a∧Kel (x0.fty,1)=some b∧V18 t i y.fkids=[b,a]) ∨
  (t.fOp ≠ 9∧t.fOp ≠ 5∧Ktz t.fOp (i:Int)=1∧∃ k0 x0 a,t.fKids[0]?=some k0∧Kf8 (s,ctx,k0)=some x0∧Kel (x0.fty,wr ((i:Int) - 1))=some a∧V18 t i y.fkids=[a]):=by
 obtain ⟨yk,_,_,hl⟩:=g.kid hs (List.getElem?_eq_getElem hi)
 have hn:=Kuo (Kum g.ok).1
 by_cases h0:Ktz t.fOp (i:Int)=0
 ·rw [h0] at hl
  exact .inl ⟨h0,List.eq_nil_of_length_eq_zero hl⟩
 by_cases h9:t.fOp=9
 ·obtain ⟨op,N,ty,ks⟩:=t
  simp only at h9
  subst h9
  refine .inr (.inl ⟨rfl,rfl,?_⟩)
  unfold V18
  rw [V1i]; rfl
 obtain ⟨op,N,ty,ks⟩:=t
 simp only at h9 h0 hn hi hl ⊢
 have hop:(op=5∧i=1)∨(op=8∧i=1)∨(op=8∧i=2)∨(op=12∧i=1):=by
  have h:=hn.2
  unfold Ktz at h0
  split at h0
  ·rename_i q; simp at q; omega
  ·split at h0
   ·rename_i q q2
    simp [h9] at q2
    rcases q2 with q2 | q2
    ·have e:Ktp 8=3:=by decide
     rw [q2.1,e] at h
     omega
    ·omega
   ·omega
 have ha0:Ktz op ((0:Nat):Int)=0:=by
  rcases hop with ⟨rfl,_⟩ | ⟨rfl,_⟩ | ⟨rfl,_⟩ | ⟨rfl,_⟩ <;> decide
 obtain ⟨k0,y0,x0,l,e1,e2,_,e4,e5,e6⟩:=g.first hs (t:=⟨op,N,ty,ks⟩) (by simp only; omega) ha0
 rw [e2] at hl ⊢
 unfold V18 Kjj at hl ⊢
 simp only at hl ⊢
 rw [if_neg (by simpa using h9),Ku2,bs,if_neg (by simpa using h0)] at hl ⊢
 rcases Kzw hs e6 with q | ⟨a,b,q,p⟩ | ⟨a,b,q,p⟩ | ⟨c,a,b,_,_,q,p⟩ | ⟨c,a,_,_,q,p⟩
 ·rw [q,Kx8,bs] at hl
  rcases hop with ⟨rfl,rfl⟩ | ⟨rfl,rfl⟩ | ⟨rfl,rfl⟩ | ⟨rfl,rfl⟩ <;> cases hl
 all_goals
  rw [q,p.pp,bs] at hl
  rw [q,p.pp,bs]
  rcases hop with ⟨rfl,rfl⟩ | ⟨rfl,rfl⟩ | ⟨rfl,rfl⟩ | ⟨rfl,rfl⟩
  all_goals first
   | (cases hl; done)
   | exact .inr (.inr (.inl ⟨rfl,rfl,k0,x0,a,b,e1,e4,by rw [e5,q]; exact p.p0,by rw [e5,q]; exact p.p1,rfl⟩))
   | exact .inr (.inr (.inr ⟨by decide,by decide,rfl,k0,x0,a,e1,e4,by rw [e5,q]; exact p.p0,rfl⟩))
   | exact .inr (.inr (.inr ⟨by decide,by decide,rfl,k0,x0,b,e1,e4,by rw [e5,q]; exact p.p1,rfl⟩))
end
theorem V2r {s:K00} {ctx:List (List Int)} {t:K01} {x:K03} {y:K04} (h:Kzk s ctx t=true) (r:V1a s s.fSize.toNat ctx t x y) (hf:x.ffault=0):V2q s ctx t y:=by
 obtain ⟨h1,h2,h3,h4,h5⟩:=V2k h
 exact ⟨h5,h3,by omega,r.im,by rw [r.fa]; exact hf⟩
theorem V2s {α:Type} {l:List α} {i:Nat} {x:α} (h:l[i]?=some x):idx l (i:Int)=some x:=by
 unfold idx
 rw [if_pos (by omega)]
 simpa using h
theorem V2t:∀ l:List K01,l.length ≤ Ktf l
 | []=>by simp [Ktf]
 | t :: l=>by have:=V2t l; rw [Ktf,List.length_cons,Kti]; omega
section
variable {s:K00} {n:Nat} (hs:Ky1 s n) {ctx:List (List Int)} {t:K01} {y:K04}
include hs
theorem V2q.inner7 (g:V2q s ctx t y) {i:Nat} (hi:i < t.fKids.length):Kfo (s,ctx,t,(i:Int))=some (V18 t i y.fkids ++ ctx):=by
 have hc:=g.bd
 unfold Kfo
 simp only
 rw [Ku1,bs]
 rcases g.inner hs hi with ⟨a0,ae⟩ | ⟨o9,a1,ae⟩ | ⟨o5,a2,k0,x0,a,b,q1,q2,q3,q4,ae⟩ | ⟨n9,n5,a1,k0,x0,a,q1,q2,q3,ae⟩
 ·rw [a0,if_pos (by decide),ae]; rfl
 ·rw [a1,if_neg (by decide),if_pos (by rw [o9]; decide),Kyz ctx [t.fType] (by simp; omega),bs,ae]
 ·have q1':=V2s q1
  rw [show ((0:Nat):Int)=0 from rfl] at q1'
  rw [a2,if_neg (by decide),if_neg (by rw [o5]; decide),q1',bs,q2,bs,if_pos (by rw [o5]; decide),q4,bs,q3,bs,Kyz ctx [b,a] (by simp; omega),bs,ae]
 ·have q1':=V2s q1
  rw [show ((0:Nat):Int)=0 from rfl] at q1'
  rw [a1,if_neg (by decide),if_neg (by simpa using n9),q1',bs,q2,bs,if_neg (by simpa using n5),q3,bs,Kyz ctx [a] (by simp; omega),bs,ae]
end
def jmc:List K02→Nat
 | []=>0
 | x :: l=>lct x.fCtx + x.fBudgets.length + 2 + mct x.fTerm + x.fType.length + x.fFrom.length + jmc l
theorem V2u (l:List K02):jmc l ≤ 2 * jct l + 2 * l.length:=by
 induction l with
 | nil=>simp [jmc]
 | cons x l ih =>
  have:=Kwm x.fTerm
  rw [jmc,jct,List.length_cons]
  unfold jms lms
  omega
theorem V2v:∀ (l a:List K02) (i k:Nat),a.drop i=l→a.length ≤ 1099511627776→jct l ≤ 1099511627776→k + jmc l ≤ 1000000000000000000 →
  ∃ M,Kpz (a,(k:Int),(i:Int))=some (((k + jmc l:Nat):Int),M)∧M.length=a.length∧M.take i=a.take i∧∀ A:List K02,A.length=a.length→A.drop i=M.drop i→Kqu (A,(k:Int),(i:Int))=some (.inl ((k + jmc l:Nat):Int)):=by
 intro l
 induction l with
 | nil =>
  intro a i k hd ha hl hk
  rw [Kpz.eq_def,jmc]
  simp only
  rw [Kr7 (Ksl hd)]
  refine ⟨a,rfl,rfl,rfl,fun A hA _=>?_⟩
  rw [Kqu.eq_def]
  simp only
  have:=Ksl hd
  rw [Kr7 (by omega)]; rfl
 | cons x l ih =>
  intro a i k hd ha hl hk
  obtain ⟨hi,hx,hd'⟩:=Ksk hd
  obtain ⟨C0,B0,T0,Y0,F0⟩:=x
  rw [jct] at hl
  unfold jms lms at hl
  rw [jmc] at hk ⊢
  simp only at hl hk hx ⊢
  have hmt:=Kwm T0
  obtain ⟨C,c1,c2⟩:=Kx0 C0 k ⟨by omega,by omega⟩ (by omega)
  have b1:=Kwi B0 (k + lct C0) (by omega) (by omega)
  have b2:=Kwk B0.length (k + lct C0) (by omega) (by omega)
  obtain ⟨ty,kk,m1,m2,m3,m4,m5⟩:=Kwq T0 (k + lct C0 + B0.length + 1 + 1) (by omega) (by omega)
  have t1:=Kwi Y0 (k + lct C0 + B0.length + 1 + 1 + mct T0) (by omega) (by omega)
  have t2:=Kwk Y0.length (k + lct C0 + B0.length + 1 + 1 + mct T0) (by omega) (by omega)
  have f1:=Kwi F0 (k + lct C0 + B0.length + 1 + 1 + mct T0 + Y0.length) (by omega) (by omega)
  have f2:=Kwk F0.length (k + lct C0 + B0.length + 1 + 1 + mct T0 + Y0.length) (by omega) (by omega)
  generalize hY:(List.range' (k + lct C0 + B0.length + 1 + 1 + mct T0) Y0.length).map (fun n:Nat=>(n:Int))=Y at *
  generalize hF:(List.range' (k + lct C0 + B0.length + 1 + 1 + mct T0 + Y0.length) F0.length).map (fun n:Nat=>(n:Int))=F at *
  generalize hB:(List.range' (k + lct C0) B0.length).map (fun n:Nat=>(n:Int))=B at *
  rw [Kpz.eq_def]
  simp only
  rw [Kr6 hi,if_pos rfl,hx,bs]
  simp only
  rw [c1,bs]
  simp only [Kwo,Int.toNat_natCast,Kwp hi,bs,b1]
  rw [Kr5 (n:=k + lct C0 + B0.length) (by omega),Kr5 (n:=k + lct C0 + B0.length + 1) (by omega)]
  simp only [m1,m2,bs,t1,f1]
  rw [Kr5 (n:=i) (by omega)]
  obtain ⟨M,h1,h2,h3,h4⟩:=ih (a.set i ⟨C,B,⟨((k + lct C0 + B0.length:Nat):Int),((k + lct C0 + B0.length + 1:Nat):Int),ty,kk⟩,Y,F⟩) (i + 1) (k + lct C0 + B0.length + 1 + 1 + mct T0 + Y0.length + F0.length) (by rw [List.drop_set_of_lt (by omega)]; exact hd') (by simpa using ha) (by omega) (by omega)
  have hMl:i < M.length:=by rw [h2,List.length_set]; exact hi
  have hMi:M[i]=⟨C,B,⟨((k + lct C0 + B0.length:Nat):Int),((k + lct C0 + B0.length + 1:Nat):Int),ty,kk⟩,Y,F⟩:=by
   have:=congrArg (fun l=>l[i]?) h3
   simp only [List.getElem?_take] at this
   rw [if_pos (by omega),if_pos (by omega),List.getElem?_eq_getElem hMl,List.getElem?_set_self hi] at this
   exact Option.some.inj this
  refine ⟨M,by rw [h1]; congr 3; omega,by simpa using h2,?_,fun A hA hAd=>?_⟩
  ·have:=congrArg (List.take i) h3
   rw [List.take_take,List.take_take,Nat.min_eq_left (by omega),List.take_set_of_le (Nat.le_refl i)] at this
   exact this
  ·rw [List.drop_eq_getElem_cons hMl,hMi] at hAd
   obtain ⟨qi,qx,qd⟩:=Ksk hAd
   rw [Kqu.eq_def]
   simp only
   rw [Kr6 qi,if_pos rfl,qx,bs]
   simp only
   rw [c2,bs,decide_eq_false (by omega),if_neg (by decide),bs]
   simp only
   rw [b2,bs,decide_eq_false (by omega),if_neg (by decide),bs]
   simp only
   rw [Krd,if_neg (by decide),bs,Kr5 (n:=k + lct C0 + B0.length) (by omega),Kr5 (n:=k + lct C0 + B0.length + 1) (by omega)]
   simp only
   rw [Krd,if_neg (by decide),bs]
   simp only
   rw [m3,bs,decide_eq_false (by omega),if_neg (by decide),bs]
   simp only
   rw [m4,bs,decide_eq_false (by omega),if_neg (by decide),bs]
   simp only
   rw [t2,bs,decide_eq_false (by omega),if_neg (by decide),bs]
   simp only
   rw [f2,bs,decide_eq_false (by omega),if_neg (by decide),Kr5 (by omega),h4 A (by simpa using hA) qd]
   congr 3; omega
theorem V2w (a:List K02) (k:Nat) (h:V2n a ≤ 1099511627776) (hk:k ≤ 100000000000000000):∃ M,Kq2 (a,(k:Int))=some (((k + jmc a:Nat):Int),M)∧Kqx (M,(k:Int))=some ((k + jmc a:Nat):Int):=by
 unfold V2n at h
 have:=V2u a
 obtain ⟨M,h1,h2,_,h4⟩:=V2v a a 0 k rfl (by omega) (by omega) (by omega)
 refine ⟨M,?_,?_⟩
 ·unfold Kq2
  simp only
  rw [show (0:Int)=((0:Nat):Int) from rfl,h1,bs]
 ·unfold Kqx
  simp only
  rw [show (0:Int)=((0:Nat):Int) from rfl,h4 M h2 rfl,bs]
theorem V2x (a b:List (List Int)) (h:a.length + b.length ≤ 1048576):Kjx [a,b]=some (a ++ b):=by
 rw [Kz9 [a,b] (by simp) (by simp; omega)]
 simp
theorem V2y (a b:List K02):jct (a ++ b)=jct a + jct b:=by
 induction a with
 | nil=>simp [jct]
 | cons x l ih=>rw [List.cons_append,jct,jct,ih]; omega
theorem V2z (ctx:List (List Int)) (t:K01) (l:List K02) (fr:List Int) (x:K03) (hc:ctx.length ≤ 1000000) (hq:∀ q ∈ ctx,q.length ≤ 40):∀ (cs:List (List Int)) (i:Nat) (out:List (List Int)),ctx.drop i=cs→out.length=i →
  Kg1 (ctx,t,l,fr,x,out,(i:Int))=some (out ++ cs):=by
 intro cs
 induction cs with
 | nil =>
  intro i out hd ho
  rw [Kg1.eq_def]
  simp only
  rw [Kr7 (Ksl hd)]
  simp
 | cons q cs ih =>
  intro i out hd ho
  obtain ⟨h1,h2,h3⟩:=Ksk hd
  have hm:q ∈ ctx:=by
   have:q ∈ ctx.drop i:=by rw [hd]; exact List.mem_cons_self
   exact List.mem_of_mem_drop this
  rw [Kg1.eq_def]
  simp only
  rw [Kr6 h1,if_pos rfl,h2,bs,Kup q (by have:=hq q hm; omega),bs,Kun (by simp; omega),bs,Kr5 (by omega),ih (i + 1) (out ++ [q]) h3 (by simp [ho])]
  simp
theorem V30 (ctx:List (List Int)) (t:K01) (y:K04) (l:List K02) (fr:List Int) (hc:ctx.length ≤ 1000000) (hq:∀ q ∈ ctx,q.length ≤ 40):∀ (cs:List (List Int)) (i:Nat) (out:List (List Int)),ctx.drop i=cs→out.length=i →
  Knb (ctx,t,y,l,fr,out,(i:Int))=some (out ++ cs):=by
 intro cs
 induction cs with
 | nil =>
  intro i out hd ho
  rw [Knb.eq_def]
  simp only
  rw [Kr7 (Ksl hd)]
  simp
 | cons q cs ih =>
  intro i out hd ho
  obtain ⟨h1,h2,h3⟩:=Ksk hd
  have hm:q ∈ ctx:=by
   have:q ∈ ctx.drop i:=by rw [hd]; exact List.mem_cons_self
   exact List.mem_of_mem_drop this
  rw [Knb.eq_def]
  simp only
  rw [Kr6 h1,if_pos rfl,h2,bs,Kuq q (by have:=hq q hm; omega),bs,Kun (by simp; omega),bs,Kr5 (by omega),ih (i + 1) (out ++ [q]) h3 (by simp [ho])]
  simp
theorem V31:∀ l:List (List Int),(∀ v ∈ l,v.length ≤ 40)→lct l ≤ l.length * 40:=by
 intro l
 induction l with
 | nil=>intro _; simp [lct]
 | cons x l ih =>
  intro h
  have h1:=ih (fun v hv=>h v (List.mem_cons_of_mem _ hv))
  have h2:=h x List.mem_cons_self
  rw [lct,List.length_cons]
  omega
structure V32 (s:K00) (ctx:List (List Int)) (t:K01) (y:K04) (l js:List K02):Prop where
 sp:Kg4 (s,ctx,t,l)=some (l ++ js)
 im:Kng (l,ctx,t,y)=some (l ++ js,((l.length + js.length:Nat):Int) - 1)
 ln:js.length=tsz t
 mz:jct js ≤ 50000000 * tsz t
section
variable {s:K00} {n:Nat} (hs:Ky1 s n)
include hs
theorem V2q.front {ctx:List (List Int)} {t:K01} {y:K04} (g:V2q s ctx t y) {i:Nat} (hi:i < t.fKids.length) :
  ∃ first,((if (decide ((i:Int) > 0))=true then (idx y.fkids 0 >>= fun e=>some e.fty) else some []):Option (List Int))=some first∧Kjj (t,(i:Int),first)=some (V18 t i y.fkids):=by
 have hl:y.fkids.length=t.fKids.length:=g.many hs
 obtain ⟨y0,l,e⟩:∃ y0 l,y.fkids=y0 :: l:=by
  cases h:y.fkids with
  | nil=>rw [h] at hl; simp at hl; omega
  | cons y0 l=>exact ⟨y0,l,rfl⟩
 obtain ⟨op,N,ty,ks⟩:=t
 have key:(∀ first,Kjj (⟨op,N,ty,ks⟩,(i:Int),first)=some (V18 ⟨op,N,ty,ks⟩ i y.fkids))∨(0 < i∧Kjj (⟨op,N,ty,ks⟩,(i:Int),y0.fty)=some (V18 ⟨op,N,ty,ks⟩ i y.fkids)):=by
  have some_of:V18 ⟨op,N,ty,ks⟩ i y.fkids ≠ []→Kjj (⟨op,N,ty,ks⟩,(i:Int),y0.fty)=some (V18 ⟨op,N,ty,ks⟩ i y.fkids):=fun h=>by
   rw [e] at h ⊢
   unfold V18 at h ⊢
   simp only at h ⊢
   cases h2:Kjj (⟨op,N,ty,ks⟩,(i:Int),y0.fty) with
   | none=>rw [h2] at h; simp at h
   | some m=>rfl
  rcases g.inner hs hi with ⟨a0,ae⟩ | ⟨o9,a1,ae⟩ | ⟨o5,a2,k0,x0,a,b,q1,q2,q3,q4,ae⟩ | ⟨n9,n5,a1,k0,x0,a,q1,q2,q3,ae⟩
  ·refine .inl (fun first=>?_)
   rw [ae]
   refine V1h (fun h=>?_) a0
   simp only at a0 h
   rw [h] at a0
   simp [Ktz] at a0
  ·refine .inl (fun first=>?_)
   rw [ae]
   simp only at o9
   subst o9
   exact V1i
  ·refine .inr ⟨?_,some_of (by rw [ae]; simp)⟩
   cases i with
   | zero=>simp only at o5 a2; rw [o5] at a2; simp [Ktz] at a2
   | succ i=>omega
  ·refine .inr ⟨?_,some_of (by rw [ae]; simp)⟩
   cases i with
   | zero =>
    simp only at n9 n5 a1
    simp [Ktz,n9,n5] at a1
   | succ i=>omega
 by_cases h0:0 < i
 ·refine ⟨y0.fty,?_,?_⟩
  ·rw [decide_eq_true (by omega),if_pos rfl,e]; rfl
  ·rcases key with h | ⟨_,h⟩
   ·exact h _
   ·exact h
 ·refine ⟨[],?_,?_⟩
  ·rw [decide_eq_false (by omega),if_neg (by decide)]
  ·rcases key with h | ⟨h,_⟩
   ·exact h _
   ·exact absurd h h0
theorem V33 {ctx:List (List Int)} {t:K01} {y:K04} (g:V2q s ctx t y) (ht:tms t ≤ 1048576)
  (ih:∀ (k:K01) (c:List (List Int)) (yk:K04) (l:List K02),tsz k < tsz t→tms k ≤ 1048576→V2q s c k yk→l.length + tsz k ≤ 1000000→∃ js,V32 s c k yk l js) :
  ∀ (ks:List K01) (i:Nat) (l:List K02) (fr:List Int),t.fKids.drop i=ks→fr.length=i→l.length + Ktf ks + 1 ≤ 1000000 →
  ∃ js fs,Kg5 (s,ctx,t,l,fr,(i:Int))=some (l ++ js,fr ++ fs)∧Knh (ctx,t,y,l,fr,(i:Int))=some (l ++ js,fr ++ fs)∧js.length=Ktf ks∧fs.length=ks.length∧jct js ≤ 50000000 * Ktf ks:=by
 intro ks
 induction ks with
 | nil =>
  intro i l fr hd ho hb
  rw [Kg5.eq_def,Knh.eq_def]
  simp only
  rw [Kr7 (Ksl hd)]
  exact ⟨[],[],by simp,by simp,rfl,rfl,by simp [jct]⟩
 | cons k ks ihl =>
  intro i l fr hd ho hb
  obtain ⟨h1,h2,h3⟩:=Ksk hd
  have hk:t.fKids[i]?=some k:=by
   have:=List.getElem?_drop (xs:=t.fKids) (i:=i) (j:=0)
   rw [hd] at this
   simpa using this.symm
  have hm:k ∈ t.fKids:=List.mem_of_getElem? hk
  obtain ⟨yk,e1,gk,el⟩:=g.kid hs hk
  have hc:=g.bd
  have hbl:t.fKids.length ≤ 1000000:=by have:=V2t t.fKids; rw [Kti] at hc; omega
  rw [Ktf] at hb
  obtain ⟨js,d1,d2,d3,d4⟩:=ih k _ yk l (by have:=Kw3 hm; omega) (by have:=Kw2 hm; omega) gk (by omega)
  have hpos:1 ≤ tsz k:=by rw [Kti]; omega
  have hw:wr (((l ++ js).length:Int) - 1)=((l.length + js.length:Nat):Int) - 1:=by rw [List.length_append,Kr3 (by omega) (by omega)]
  obtain ⟨js',fs,r1,r2,r3,r4,r5⟩:=ihl (i + 1) (l ++ js) (fr ++ [((l.length + js.length:Nat):Int) - 1]) h3 (by simp [ho]) (by rw [List.length_append]; omega)
  refine ⟨js ++ js',(((l.length + js.length:Nat):Int) - 1) :: fs,?_,?_,by rw [List.length_append,Ktf]; omega,by simp [r4],by rw [V2y,Ktf]; omega⟩
  ·rw [Kg5.eq_def]
   simp only
   rw [Kr6 h1,if_pos rfl,g.inner7 hs h1,bs,h2,bs,d1,bs,Kun (by simp; omega),bs,hw,Kr5 (by omega),r1]
   simp
  ·obtain ⟨first,f1,f2⟩:=g.front hs h1
   have hadd:=Ku0 t.fOp (i:Int)
   rw [Knh.eq_def]
   simp only
   rw [Kr6 h1,if_pos rfl,h2,bs,f1,bs,f2,bs,V2x _ _ (by omega),bs,V2s e1,bs,d2,bs,Kun (by simp; omega),bs,Kr5 (by omega),r2]
   simp
theorem V34:∀ (m:Nat) (t:K01) (ctx:List (List Int)) (y:K04) (l:List K02),tsz t ≤ m→tms t ≤ 1048576→V2q s ctx t y→l.length + tsz t ≤ 1000000→∃ js,V32 s ctx t y l js
 | 0,t,ctx,y,l,hm,_,_,_=>by rw [Kti] at hm; omega
 | m + 1,t,ctx,y,l,hm,ht,g,hl=>by
  obtain ⟨x,r,hf,hx,hy⟩:=g.tell hs
  obtain ⟨_,_,ns,n1,n2,_⟩:=r.gd hf
  have hly:=Kzn hy
  have hcx:∀ q ∈ ctx,q.length ≤ 40:=fun q hq=>Kzn (g.cx q hq)
  have hb:=g.bd
  obtain ⟨js,fs,r1,r2,r3,r4,r5⟩:=V33 hs g ht (fun k c yk l hk hmk gk hlk=>V34 m k c yk l (by omega) hmk gk hlk) t.fKids 0 l [] rfl rfl (by rw [Kti] at hl; omega)
  have hnl:x.fneeds.length ≤ 1000000:=by rw [n1]; unfold Kxw; rw [List.length_map]; omega
  have hkl:t.fKids.length ≤ 1000000:=by have:=V2t t.fKids; rw [Kti] at hb; omega
  have hsh:Kfs (t,0,0)=some t:=Kwg (Kwc (by omega) t (Kwe _ _ t _ g.ok)) (by omega)
  refine ⟨js ++ [⟨ctx,x.fneeds,t,x.fty,fs⟩],?_,?_,by rw [List.length_append,r3,Kti]; simp; omega,?_⟩
  ·rw [Kg4.eq_def]
   simp only
   rw [show (0:Int)=((0:Nat):Int) from rfl,r1,bs]
   simp only
   rw [r.sp,bs,V2z ctx t _ _ x (by omega) hcx ctx 0 [] rfl rfl,bs,show ((0:Nat):Int)=0 from rfl,hsh,bs,Kun (by simp; rw [Kti] at hl; omega),bs]
   simp
  ·rw [Kng.eq_def]
   simp only
   rw [show (0:Int)=((0:Nat):Int) from rfl,r2,bs]
   simp only
   rw [V30 ctx t y _ _ (by omega) hcx ctx 0 [] rfl rfl,bs,r.ne,Kuq x.fneeds (by omega),bs,Kw4 t (by omega),bs,hx.symm,Kuq x.fty (by rw [hx]; omega),bs,Kun (by simp; rw [Kti] at hl; omega),bs]
   simp
   rw [Kr3 (by rw [Kti] at hl; omega) (by rw [Kti] at hl; omega)]
  ·have h40:=V31 ctx hcx
   rw [V2y,jct,jct,Kti]
   unfold jms lms
   simp only
   rw [hx,r4]
   rw [Kti] at hb
   omega
end
theorem V35 (x0:K00) (x1:List (List Int)) (x2:K01) (b0:sms x0 ≤ 1048576) (b1:lms x1 ≤ 1048576) (b2:tms x2 ≤ 1048576) (h2:tln x2) :
  ∃ w0 w1,Kgb (x0,x1,x2)=some (w0,w1)∧Knn (x0,x1,x2)=some (w0,w1)∧V2n w0 ≤ 1099511627776:=by
 rcases V2m (s:=x0) b1 (by omega:tms x2 ≤ 1099511627776) with ⟨h0,q1,q2⟩ | ⟨h0,q1,x,y,r,q2⟩
 ·unfold Kgb Knn Kfl
  simp only
  rw [q1,q2,bs,bs,if_neg (by decide),bs]
  exact ⟨_,_,rfl,rfl,by simp [V2n,jct]⟩
 ·by_cases hf:x.ffault=0
  rotate_left
  ·unfold Kgb Knn Kfl
   simp only
   rw [q1,q2,bs,bs,if_pos rfl,r.sp,bs]
   refine ⟨[],false,?_,?_,by simp [V2n,jct]⟩
   ·rw [if_pos (bne_iff_ne.2 hf),bs]; rfl
   ·dsimp only
    rw [if_pos (by rw [r.fa]; exact bne_iff_ne.2 hf)]
  obtain ⟨hs,h8,_,h4,_⟩:=V2k h0
  obtain ⟨js,d1,d2,d3,d4⟩:=V34 hs (tsz x2) x2 x1 y [] (Nat.le_refl _) b2 (V2r h0 r hf) (by simp; omega)
  rw [List.nil_append] at d1 d2
  refine ⟨js,true,?_,?_,by unfold V2n; omega⟩
  ·unfold Kgb Kfl
   simp only
   rw [q1,bs,if_pos rfl,r.sp,bs,if_neg (by simp [hf]),bs]
   dsimp only
   rw [if_pos rfl,d1,bs]
  ·unfold Knn
   simp only
   rw [q2,bs]
   dsimp only
   rw [if_neg (by rw [r.fa]; simp [hf]),d2,bs]
theorem V36 (x0:K00) (x1:List (List Int)) (x2:K01) (hx0:sln x0) (hx1:lln x1) (hx2:tln x2):Kr0 (x0,x1,x2)=some true:=by
 unfold Kr0
 simp only
 rw [Kvx x0 (1048576) hx0 (by omega) (by omega),bs]
 rcases Kuc (1048576) (sms x0) with ⟨e0,l0⟩ | ⟨e0,l0⟩
 ·rw [e0]; rfl
 ·rw [e0,decide_eq_false (by omega),if_neg (by decide)]
  rw [Kxs x1 (1048576 - (sms x0:Int)) hx1 (by omega) (by omega),bs]
  rcases Kuc (1048576 - (sms x0:Int)) (lms x1) with ⟨e1,l1⟩ | ⟨e1,l1⟩
  ·rw [e1]; rfl
  ·rw [e1,decide_eq_false (by omega),if_neg (by decide)]
   rw [Kuf x2 (1048576 - (sms x0:Int) - (lms x1:Int)) hx2 (by omega) (by omega),bs]
   rcases Kuc (1048576 - (sms x0:Int) - (lms x1:Int)) (tms x2) with ⟨e2,l2⟩ | ⟨e2,l2⟩
   ·rw [e2]; rfl
   ·rw [e2,decide_eq_false (by omega),if_neg (by decide)]
    have bx0:sms x0 ≤ 1048576:=by omega
    have bx1:lms x1 ≤ 1048576:=by omega
    have bx2:tms x2 ≤ 1048576:=by omega
    obtain ⟨w0,w1,s1,s2,c0⟩:=V35 x0 x1 x2 bx0 bx1 bx2 hx2
    obtain ⟨Mx0,mx0⟩:=Kxa x0 (1) (by omega) (by omega)
    have qx1:=Kxq (l:=x1) (by omega)
    have zx1:=qx1.2
    obtain ⟨Mx1,mx1⟩:=Kx2 x1 (1 + sms x0) qx1 (by omega)
    obtain ⟨Mx2,mx2⟩:=Kwu x2 (1 + sms x0 + lct x1) (by omega) (by omega)
    have zx2:=Kwm x2
    obtain ⟨N0,n0,n0'⟩:=V2w w0 (1) c0 (by omega)
    have y0:=V2u w0
    have yj0:=c0
    unfold V2n at yj0
    rw [show ((1:Nat):Int)=1 from rfl] at mx0 n0 n0'
    simp only [s1,s2,bs,Kvy (s:=x0) (by omega),Kvz (s:=x0) (by omega),Kxu x1 (by omega),Kwy x1 (Kxq (by omega)),Kuh x2 (by omega),Kuj x2 (by omega),V2p w0 c0,mx0,mx1,mx2,n0,n0',Kwv,if_true,if_false,Bool.false_eq_true,Krd,Bool.not_true,Bool.not_false,Kx5,beq_self_eq_true]
    repeat (rw [decide_eq_false (by omega)]; simp only [bs,Bool.false_eq_true,if_false,if_true,Krd,Kwv,Bool.not_true,n0,n0'])
end Go.Am
