/- Plain laws of the printed functions. -/
import Derived.Test.YtckgdfakjjdodaaGreatPERA1
set_option linter.unusedSimpArgs false
set_option linter.unusedVariables false
namespace Go.Am
theorem V05 (g:Nat) (h:g ≤ 15):Kq5 (3 + (g:Int))=(3,(g:Int)):=by
 rcases Kq7 (3 + (g:Int)) with h | h | h | h | h | h | h | h <;> first | omega | (obtain ⟨_,e⟩:=h; rw [e]; congr 1; omega)
theorem V06 (g:Nat) (h:g ≤ 15):Kq5 (19 + (g:Int))=(4,(g:Int)):=by
 rcases Kq7 (19 + (g:Int)) with h | h | h | h | h | h | h | h <;> first | omega | (obtain ⟨_,e⟩:=h; rw [e]; congr 1; omega)
theorem V07 (g:Nat) (h:g ≤ 15):Kpy (3 + (g:Int))=true:=by unfold Kpy inB; simp; omega
theorem V08 (g:Nat) (h:g ≤ 15):Kpy (19 + (g:Int))=false:=by unfold Kpy inB; simp; omega
theorem V09 (g:Nat) (h:g ≤ 15):Kpz (3 + (g:Int))=false:=by unfold Kpz inB; simp; omega
theorem V0a (g:Nat) (h:g ≤ 15):Kpz (19 + (g:Int))=true:=by unfold Kpz inB; simp; omega
theorem V0b (g:Nat) (h:g ≤ 15):Kca (3 + (g:Int))=some (g:Int):=by
 rw [Kqn (by rcases Kq4 (3 + (g:Int)) with h | h | h | h <;> omega)]
 unfold Kql
 rw [if_neg (by omega),if_neg (by omega)]
 congr 1; omega
theorem V0c (g:Nat) (h:g ≤ 15):Kca (19 + (g:Int))=some (g:Int):=by
 rw [Kqn (by rcases Kq4 (19 + (g:Int)) with h | h | h | h <;> omega)]
 unfold Kql
 rw [if_neg (by omega),if_pos (by omega)]
 congr 1; omega
section
variable {s:K00} {n:Nat} (hs:Kwf s n) {ctx:List (List Int)} {N:Int} {ty:List Int} {ks:List K01}
include hs
structure V0d (s:K00) (n:Nat) (q:List Int) (c:Int):Prop where
 arr:(Kq5 c).1=3→∃ (g:Nat) (a b:List Int),g < n∧g ≤ 15∧c=3 + (g:Int)∧q=c :: (a ++ b)∧Kxr s (3 + (g:Int)) a b
 pair:(Kq5 c).1=1→∃ (a b:List Int),c=1∧q=c :: (a ++ b)∧Kxr s 1 a b
 sum:(Kq5 c).1=2→∃ (a b:List Int),c=2∧q=c :: (a ++ b)∧Kxr s 2 a b
 box:(Kq5 c).1=4→∃ (g:Nat) (a:List Int),g < n∧g ≤ 15∧c=19 + (g:Int)∧q=c :: a∧Kxs s (19 + (g:Int)) a
 arrB:Kpy c=true ↔ (Kq5 c).1=3
 boxB:Kpz c=true ↔ (Kq5 c).1=4
 one:c=1 ↔ (Kq5 c).1=1
 two:c=2 ↔ (Kq5 c).1=2
theorem V0e {q:List Int} (hq:TyS s q) {c:Int} {r:List Int} (e:q=c :: r):V0d s n q c:=by
 rcases Kxx hs hq with rfl | ⟨a,b,rfl,P⟩ | ⟨a,b,rfl,P⟩ | ⟨g,a,b,hg,h15,rfl,P⟩ | ⟨g,a,hg,h15,rfl,P⟩
 ·cases e
  refine ⟨fun h=>?_,fun h=>?_,fun h=>?_,fun h=>?_,by decide,by decide,by decide,by decide⟩ <;> exact absurd h (by decide)
 ·cases e
  refine ⟨fun h=>absurd h (by decide),fun _=>⟨a,b,rfl,rfl,P⟩,fun h=>absurd h (by decide),fun h=>absurd h (by decide),by decide,by decide,by decide,by decide⟩
 ·cases e
  refine ⟨fun h=>absurd h (by decide),fun h=>absurd h (by decide),fun _=>⟨a,b,rfl,rfl,P⟩,fun h=>absurd h (by decide),by decide,by decide,by decide,by decide⟩
 ·cases e
  have hsh:=V05 g h15
  refine ⟨fun _=>⟨g,a,b,hg,h15,rfl,rfl,P⟩,fun h=>?_,fun h=>?_,fun h=>?_,?_,?_,?_,?_⟩
  ·rw [hsh] at h; simp at h
  ·rw [hsh] at h; simp at h
  ·rw [hsh] at h; simp at h
  ·rw [hsh,V07 g h15]; simp
  ·rw [hsh,V09 g h15]; simp
  ·rw [hsh]; simp; omega
  ·rw [hsh]; simp; omega
 ·cases e
  have hsh:=V06 g h15
  refine ⟨fun h=>?_,fun h=>?_,fun h=>?_,fun _=>⟨g,_,hg,h15,rfl,rfl,P⟩,?_,?_,?_,?_⟩
  ·rw [hsh] at h; simp at h
  ·rw [hsh] at h; simp at h
  ·rw [hsh] at h; simp at h
  ·rw [hsh,V08 g h15]; simp
  ·rw [hsh,V0a g h15]; simp
  ·rw [hsh]; simp; omega
  ·rw [hsh]; simp; omega
theorem V0f (ih:Kzs s n (tsz (⟨10,N,ty,ks⟩:K01))) (h:tOk (gN s.fSize true) (yN s.fSize true) ctx.length ⟨10,N,ty,ks⟩=true) (hc:∀ q ∈ ctx,TyS s q) (hb:ctx.length + 2 * tsz (⟨10,N,ty,ks⟩:K01) ≤ 1000000):∃ x y,Kzb s n ctx ⟨10,N,ty,ks⟩ x y:=by
 obtain ⟨k0,k1,rfl,p0,p1⟩:=nd2 h (Nat.le_refl _) rfl
 have hz:=Kvn 10 N ty k0 k1
 obtain ⟨x0,y0,r0⟩:=ih k0 ctx p0 hc (by omega)
 obtain ⟨x1,y1,r1⟩:=ih k1 ctx p1 hc (by omega)
 by_cases f0:x0.ffault=0
 rotate_left
 ·exact Kzu (by decide) (by decide) (by decide) hb r0 f0
 obtain ⟨g0,q0,a,na,la,ba⟩:=r0.gd f0
 obtain ⟨c0,t0,ht0,hn0,hz0⟩:=Kzx hs g0
 have L0:=Kxo g0
 have e0:Knw (s,ctx,⟨10,N,ty,[k0,k1]⟩,0)=some x0:=Kzc (i:=0) rfl r0 f0
 have C:=V0e hs g0 ht0
 have i0:idx x0.fty 0=some c0:=by rw [ht0]; rfl
 by_cases z0:(Kq5 c0).1=3
 rotate_left
 ·have w0:Kpy c0=false:=by cases h:Kpy c0 with | true=>exact absurd (C.arrB.1 h) z0 | false=>rfl
  refine Kzb.bad (f:=6) (p:=[]) ?_ (Kyh (by omega) (Kzf (m:=[]) rfl (Kzo (by decide)) r0 (by simp; omega) f0 (by rw [ht0,Kyo,if_neg z0]) (by decide))) (by decide) (by simp; omega)
  rw [Knu.eq_def]
  simp [e0,f0,i0,Kq1,w0,Kno]
 obtain ⟨g,p,q,hg,h15,hcg,hq,P⟩:=C.arr z0
 have w0:Kpy c0=true:=C.arrB.2 z0
 have o0:=Kzh (out:=[]) (nd:=[]) (us:=[]) (w:=0) (t:=⟨10,N,ty,[k0,k1]⟩) (m:=[]) rfl (Kzo (by decide)) r0 (by simp; omega) f0 (by rw [ht0,Kyo,if_pos z0]) (Kyk (by decide)) na (by simp <;> omega) (by simp) (by simp) (by simp) (by simp)
 have m1:Ky6 ⟨10,N,ty,[k0,k1]⟩ [y0] 1=some []:=Kzq (by decide) (Kzi (by decide) rfl)
 by_cases f1:x1.ffault=0
 rotate_left
 ·have e1:Knw (s,ctx,⟨10,N,ty,[k0,k1]⟩,1)=some ⟨[],[],x1.ffault,1 :: x1.fpath⟩:=Kzd (i:=1) rfl r1 (by omega) f1
  refine Kzb.bad (f:=x1.ffault) (p:=1 :: x1.fpath) ?_ (Kyh (by omega) (o0.trans (Kze (m:=[]) rfl m1 r1 (by omega) (by simp; omega) f1))) f1 (by have:=r1.pl; simp; omega)
  rw [Knu.eq_def]
  simp [e0,f0,i0,Kq1,w0,e1,f1]
 obtain ⟨g1,q1,b,nb,lb,bb⟩:=r1.gd f1
 obtain ⟨c1,t1,ht1,hn1,hz1⟩:=Kzx hs g1
 have L1:=Kxo g1
 have e1:Knw (s,ctx,⟨10,N,ty,[k0,k1]⟩,1)=some x1:=Kzc (i:=1) rfl r1 f1
 have hp0:Kc4 (x0.fty,0)=some p:=by rw [hq,hcg]; exact P.p0
 have hp1:Kc4 (x0.fty,1)=some q:=by rw [hq,hcg]; exact P.p1
 have hpp:Khw y0.fty=some [p,q]:=by rw [r0.ty,hq,hcg]; exact P.pp
 have Lp:=Kxo P.ya
 have Lq:=Kxo P.yb
 have hsm:=Kux x1.fty p (by omega)
 have hsi:=Kuz x1.fty p (by omega)
 have ha:Kyc ⟨10,N,ty,[k0,k1]⟩ [y0] 1 y1=some (!(x1.fty == p)):=by
  unfold Kyc
  rw [if_pos (show ((10:Int) == 10)=true by decide),if_pos (by decide),Kyt,bs,hpp,bs,Kyt,bs,r1.ty,hsi,bs]
 by_cases hqq:x1.fty=p
 rotate_left
 ·rw [show (x1.fty == p)=false from beq_eq_false_iff_ne.2 hqq] at hsm ha
  refine Kzb.bad (f:=3) (p:=[]) ?_ (Kyh (by omega) (o0.trans (Kzg (m:=[]) rfl m1 r1 (by simp; omega) f1 (by rw [ht1]; exact Kyl (.inr (by decide))) ha))) (by decide) (by simp; omega)
  rw [Knu.eq_def]
  simp [e0,f0,i0,Kq1,w0,e1,f1,hp0,hsm,Kno]
 rw [show (x1.fty == p)=true from beq_iff_eq.2 hqq] at hsm ha
 have o1:=Kzh (out:=[y0]) (nd:=[Kwa a]) (us:=[Kwa []]) (w:=1) (t:=⟨10,N,ty,[k0,k1]⟩) (m:=[]) rfl m1 r1 (by simp; omega) f1 (by rw [ht1]; exact Kyl (.inr (by decide))) ha nb (by simp <;> omega) (by simp) (by simp) (by simp) (by simp)
 have hf:=Kz5 (N:=N) (ty:=ty) (ks:=[k0,k1]) (ctx:=ctx) (us:=[Kwa [],Kwa []]) (z:=Kwa (List.replicate ctx.length 0)) (y0:=y0) (y1:=y1) hs hg (p:=p) (q:=q) (by rw [r0.ty,hq,hcg]) P ba bb (by omega) (by omega)
 have im:=Kzt (q:=q) (ns:=Kwn s n a (Kwo s n g b)) (kids:=[y0,y1]) Lq (Kyi (p0:=⟨s⟩) (t:=⟨10,N,ty,[k0,k1]⟩) (ctx:=ctx) (by omega) (o0.trans (o1.trans (Ky9 (Nat.le_refl _)))) hf)
 have lsc:(Kwo s n g b).length=ctx.length:=by unfold Kwo; rw [List.length_map]; exact lb
 refine Kzb.good (q:=q) (ns:=Kwn s n a (Kwo s n g b)) (kids:=[y0,y1]) ?_ im (by omega) P.yb (by unfold Kwn; rw [List.length_zipWith]; omega) (Kwt hs ba (Kwu hs hg bb)) rfl (kd2 (Kza.mk' (Kzi (by decide) rfl) r0 f0 (fun _ h=>by cases h) rfl) (Kza.mk' (Kzi (by decide) rfl) r1 f1 (fun _ h=>by cases h) rfl))
 have hgr:Kca c0=some (g:Int):=by rw [hcg]; exact V0b g h15
 rw [Knu.eq_def]
 simp [e0,f0,i0,Kq1,w0,e1,f1,hp0,hp1,hsm,hgr,na,nb,Kwz hs g hg a b ba bb (by omega) (by omega)]
theorem V0g (ih:Kzs s n (tsz (⟨5,N,ty,ks⟩:K01))) (h:tOk (gN s.fSize true) (yN s.fSize true) ctx.length ⟨5,N,ty,ks⟩=true) (hc:∀ q ∈ ctx,TyS s q) (hb:ctx.length + 2 * tsz (⟨5,N,ty,ks⟩:K01) ≤ 1000000):∃ x y,Kzb s n ctx ⟨5,N,ty,ks⟩ x y:=by
 obtain ⟨k0,k1,rfl,p0,p1⟩:=nd2 h (Nat.le_refl _) rfl
 have hz:=Kvn 5 N ty k0 k1
 obtain ⟨g,hN,hg⟩:=Ky0 hs (Ky2 h rfl)
 simp only at hN
 subst hN
 obtain ⟨x0,y0,r0⟩:=ih k0 ctx p0 hc (by omega)
 by_cases f0:x0.ffault=0
 rotate_left
 ·exact Kzu (by decide) (by decide) (by decide) hb r0 f0
 obtain ⟨g0,q0,a,na,la,ba⟩:=r0.gd f0
 obtain ⟨c0,t0,ht0,hn0,hz0⟩:=Kzx hs g0
 have L0:=Kxo g0
 have e0:Knw (s,ctx,⟨5,(g:Int),ty,[k0,k1]⟩,0)=some x0:=Kzc (i:=0) rfl r0 f0
 have C:=V0e hs g0 ht0
 have i0:idx x0.fty 0=some c0:=by rw [ht0]; rfl
 by_cases z0:(Kq5 c0).1=1
 rotate_left
 ·have w0:c0 ≠ 1:=fun h=>z0 (C.one.1 h)
  refine Kzb.bad (f:=4) (p:=[]) ?_ (Kyh (by omega) (Kzf (m:=[]) rfl (Kzo (by decide)) r0 (by simp; omega) f0 (by rw [ht0,Kyp hs hg,if_neg z0]) (by decide))) (by decide) (by simp; omega)
  rw [Knu.eq_def]
  simp [e0,f0,i0,Knv.eq_def,w0,Kno]
 obtain ⟨p,q,hcg,hq,P⟩:=C.pair z0
 have hle:=sLe hs.tab (Kwh hs) hg
 cases hl:le s n 1 g with
 | false =>
  have hl2:K9e (s,1,(g:Int))=some false:=by rw [← hl]; exact hle
  refine Kzb.bad (f:=8) (p:=[]) ?_ (Kyh (by omega) (Kzf (m:=[]) rfl (Kzo (by decide)) r0 (by simp; omega) f0 (by rw [ht0,Kyp hs hg,if_pos z0,hl]; rfl) (by decide))) (by decide) (by simp; omega)
  rw [Knu.eq_def]
  simp [e0,f0,i0,Knv.eq_def,hcg,hl2,Kno]
 | true =>
 have hl2:K9e (s,1,(g:Int))=some true:=by rw [← hl]; exact hle
 have o0:=Kzh (out:=[]) (nd:=[]) (us:=[]) (w:=0) (t:=⟨5,(g:Int),ty,[k0,k1]⟩) (m:=[]) rfl (Kzo (by decide)) r0 (by simp; omega) f0 (by rw [ht0,Kyp hs hg,if_pos z0,hl]; rfl) (Kyj (show (5:Int) ≠ 10 by decide)) na (by simp <;> omega) (by simp) (by simp) (by simp) (by simp)
 have hp0:Kc4 (x0.fty,0)=some p:=by rw [hq,hcg]; exact P.p0
 have hp1:Kc4 (x0.fty,1)=some q:=by rw [hq,hcg]; exact P.p1
 have ad:Kny (⟨5,(g:Int),ty,[k0,k1]⟩,((1:Nat):Int),y0.fty)=some [q,p]:=by rw [r0.ty,hq,hcg]; exact Kzk P
 have hm':∀ z ∈ [q,p],TyS s z:=fun z hz=>by simp at hz; rcases hz with rfl | rfl; exact P.yb; exact P.ya
 have m1:Ky6 ⟨5,(g:Int),ty,[k0,k1]⟩ [y0] 1=some [q,p]:=Kzq (by decide) ad
 have p1':Ky1 s ([q,p] ++ ctx).length k1 (tsz (⟨5,(g:Int),ty,[k0,k1]⟩:K01)):=by
  have e:([q,p] ++ ctx).length=ctx.length + Krb 5 1:=by simp [Krb]
  rw [e]; exact p1
 obtain ⟨x1,y1,r1⟩:=ih k1 ([q,p] ++ ctx) p1' (fun z hz=>by rcases List.mem_append.1 hz with hz | hz; exact hm' z hz; exact hc z hz) (by simp; omega)
 have hwc:=Kxd ctx [q,p] (by simp; omega)
 by_cases f1:x1.ffault=0
 rotate_left
 ·have e1:Knw (s,q :: p :: ctx,⟨5,(g:Int),ty,[k0,k1]⟩,1)=some ⟨[],[],x1.ffault,1 :: x1.fpath⟩:=Kzd (i:=1) rfl r1 (by omega) f1
  refine Kzb.bad (f:=x1.ffault) (p:=1 :: x1.fpath) ?_ (Kyh (by omega) (o0.trans (Kze (m:=[q,p]) rfl m1 r1 (by omega) (by simp; omega) f1))) f1 (by have:=r1.pl; simp; omega)
  rw [Knu.eq_def]
  simp [e0,f0,i0,Knv.eq_def,hcg,hl2,hp0,hp1,hwc,e1,f1]
 obtain ⟨g1,q1,b,nb,lb,bb⟩:=r1.gd f1
 obtain ⟨c1,t1,ht1,hn1,hz1⟩:=Kzx hs g1
 have L1:=Kxo g1
 have e1:Knw (s,q :: p :: ctx,⟨5,(g:Int),ty,[k0,k1]⟩,1)=some x1:=Kzc (i:=1) rfl r1 f1
 have lb':b.length=ctx.length + 2:=by rw [lb]; simp
 obtain ⟨u0,u1,b',rfl⟩:∃ u0 u1 b',b=u0 :: u1 :: b':=by match b,lb' with | u0 :: u1 :: b',_=>exact ⟨u0,u1,b',rfl⟩ | [_],h=>simp at h | [],h=>simp at h
 obtain ⟨hu0,bb1⟩:=Kwr bb
 obtain ⟨hu1,bb'⟩:=Kwr bb1
 have o1:=Kzh (out:=[y0]) (nd:=[Kwa a]) (us:=[Kwa []]) (w:=1) (t:=⟨5,(g:Int),ty,[k0,k1]⟩) (m:=[q,p]) rfl m1 r1 (by simp; omega) f1 (by rw [ht1]; exact Kyl (.inr (by decide))) (Kyj (show (5:Int) ≠ 10 by decide)) nb (by simp <;> omega) (by simp) (by simp) (by simp) (by simp)
 simp only [List.length_cons,List.length_nil,Nat.zero_add,List.drop_succ_cons,List.drop_zero,List.take_succ_cons,List.take_zero,List.nil_append] at o1
 have hl0:=o0.trans (o1.trans (Ky9 (Nat.le_refl _)))
 have lbc:b'.length=ctx.length:=by simp at lb'; omega
 have i1:idx x1.fneeds 0=some (u0:Int):=by rw [nb]; rfl
 have hcut:cut x1.fneeds (some (2:Int)) none none=some (Kwa b'):=by
  rw [nb]
  have:=Kyb (l:=Kwa (u0 :: u1 :: b')) (m:=2) (by simp [Kwa])
  exact this
 have hcp:=Ks0 (Kwa b') (by rw [Kwb]; omega)
 have i2:idx x1.fneeds 1=some (u1:Int):=by rw [nb]; rfl
 have hle0:=sLe hs.tab hu0 hg
 have hle1:=sLe hs.tab hu1 hg
 have hf:=Kz6 (ty:=ty) (ks:=[k0,k1]) (ctx:=ctx) (z:=Kwa (List.replicate ctx.length 0)) (y0:=y0) (y1:=y1) (us':=Kwa []) (u:=[u0,u1]) hs hg (fun x hx=>by simp at hx; rcases hx with rfl | rfl; exact hu0; exact hu1) (by simp) ba bb' (by omega) (by omega) (by rw [r1.ty]; omega)
 simp only [List.all_cons,List.all_nil,Bool.and_true] at hf
 have es:=e1
 cases hal:(le s n u0 g && le s n u1 g) with
 | false =>
  rw [hal,if_neg (by decide)] at hf
  refine Kzb.bad (f:=9) (p:=[]) ?_ (Kyi (by omega) hl0 hf) (by decide) (by simp; omega)
  rw [Knu.eq_def]
  simp [e0,f0,i0,Knv.eq_def,hcg,hl2,hp0,hp1,hwc,e1,f1,i1,i2,hcut,hcp,hle0,hle1,Kno]
  cases q1:le s n u1 g with
  | false=>simp
  | true=>rw [q1,Bool.and_true] at hal; simp [hal]
 | true =>
  rw [hal,if_pos rfl] at hf
  have im:=Kzt (q:=y1.fty) (ns:=Kwn s n (Kwo s n g a) b') (kids:=[y0,y1]) (by rw [r1.ty]; omega) (Kyi (by omega) hl0 hf)
  rw [r1.ty] at im
  have lsc:(Kwo s n g a).length=ctx.length:=by unfold Kwo; rw [List.length_map]; exact la
  have hsc:=Kwu hs hg ba
  have hz0:=Kwx hs hsc
  rw [lsc] at hz0
  have hsum:=Kwz hs g hg (List.replicate ctx.length 0) a (fun x hx=>by rw [List.eq_of_mem_replicate hx]; exact Kwi hs) ba (by simp; omega) (by simp [la])
  rw [hz0] at hsum
  have hs2:=Kx0 hs (Kwo s n g a) b' hsc bb' (by omega) (by omega)
  refine Kzb.good (q:=x1.fty) (ns:=Kwn s n (Kwo s n g a) b') (kids:=[y0,y1]) ?_ im (by omega) g1 (by unfold Kwn; rw [List.length_zipWith]; omega) (Kwt hs hsc bb') rfl (kd2 (Kza.mk' (Kzi (by decide) rfl) r0 f0 (fun _ h=>by cases h) rfl) (Kza.mk' ad r1 f1 hm' rfl))
  rw [Knu.eq_def]
  rw [Bool.and_eq_true] at hal
  simp [e0,f0,i0,Knv.eq_def,hcg,hl2,hp0,hp1,hwc,e1,f1,i1,i2,hcut,hcp,hle0,hle1,hal.1,hal.2,na,Kxc ctx.length (by omega),hsum,hs2]
theorem V0h (ih:Kzs s n (tsz (⟨12,N,ty,ks⟩:K01))) (h:tOk (gN s.fSize true) (yN s.fSize true) ctx.length ⟨12,N,ty,ks⟩=true) (hc:∀ q ∈ ctx,TyS s q) (hb:ctx.length + 2 * tsz (⟨12,N,ty,ks⟩:K01) ≤ 1000000):∃ x y,Kzb s n ctx ⟨12,N,ty,ks⟩ x y:=by
 obtain ⟨k0,k1,rfl,p0,p1⟩:=nd2 h (Nat.le_refl _) rfl
 have hz:=Kvn 12 N ty k0 k1
 obtain ⟨g,hN,hg⟩:=Ky0 hs (Ky2 h rfl)
 simp only at hN
 subst hN
 obtain ⟨x0,y0,r0⟩:=ih k0 ctx p0 hc (by omega)
 by_cases f0:x0.ffault=0
 rotate_left
 ·exact Kzu (by decide) (by decide) (by decide) hb r0 f0
 obtain ⟨g0,q0,a,na,la,ba⟩:=r0.gd f0
 obtain ⟨c0,t0,ht0,hn0,hz0⟩:=Kzx hs g0
 have L0:=Kxo g0
 have e0:Knw (s,ctx,⟨12,(g:Int),ty,[k0,k1]⟩,0)=some x0:=Kzc (i:=0) rfl r0 f0
 have C:=V0e hs g0 ht0
 have i0:idx x0.fty 0=some c0:=by rw [ht0]; rfl
 by_cases z0:(Kq5 c0).1=4
 rotate_left
 ·have w0:Kpz c0=false:=by cases h:Kpz c0 with | true=>exact absurd (C.boxB.1 h) z0 | false=>rfl
  refine Kzb.bad (f:=7) (p:=[]) ?_ (Kyh (by omega) (Kzf (m:=[]) rfl (Kzo (by decide)) r0 (by simp; omega) f0 (by rw [ht0,Kyr hs hg,if_neg z0]) (by decide))) (by decide) (by simp; omega)
  rw [Knu.eq_def]
  simp [e0,f0,i0,Knv.eq_def,Kq2,w0,Kno]
 obtain ⟨m,p,hm,h15,hcg,hq,P⟩:=C.box z0
 have w0:Kpz c0=true:=C.boxB.2 z0
 have hle:=sLe hs.tab (Kwh hs) hg
 cases hl:le s n 1 g with
 | false =>
  have hl2:K9e (s,1,(g:Int))=some false:=by rw [← hl]; exact hle
  refine Kzb.bad (f:=8) (p:=[]) ?_ (Kyh (by omega) (Kzf (m:=[]) rfl (Kzo (by decide)) r0 (by simp; omega) f0 (by rw [ht0,Kyr hs hg,if_pos z0,hl]; rfl) (by decide))) (by decide) (by simp; omega)
  rw [Knu.eq_def]
  simp [e0,f0,i0,Knv.eq_def,Kq2,w0,hl2,Kno]
 | true =>
 have hl2:K9e (s,1,(g:Int))=some true:=by rw [← hl]; exact hle
 have o0:=Kzh (out:=[]) (nd:=[]) (us:=[]) (w:=0) (t:=⟨12,(g:Int),ty,[k0,k1]⟩) (m:=[]) rfl (Kzo (by decide)) r0 (by simp; omega) f0 (by rw [ht0,Kyr hs hg,if_pos z0,hl]; rfl) (Kyj (show (12:Int) ≠ 10 by decide)) na (by simp <;> omega) (by simp) (by simp) (by simp) (by simp)
 have hp0:Kc4 (x0.fty,0)=some p:=by rw [hq,hcg]; exact P.p0
 have ad:Kny (⟨12,(g:Int),ty,[k0,k1]⟩,((1:Nat):Int),y0.fty)=some [p]:=by rw [r0.ty,hq,hcg]; exact Kzn P
 have hm':∀ z ∈ [p],TyS s z:=fun z hz=>by simp at hz; rw [hz]; exact P.ya
 have hgr:Kca c0=some (m:Int):=by rw [hcg]; exact V0c m h15
 have m1:Ky6 ⟨12,(g:Int),ty,[k0,k1]⟩ [y0] 1=some [p]:=Kzq (by decide) ad
 have p1':Ky1 s ([p] ++ ctx).length k1 (tsz (⟨12,(g:Int),ty,[k0,k1]⟩:K01)):=by
  have e:([p] ++ ctx).length=ctx.length + Krb 12 1:=by simp [Krb]
  rw [e]; exact p1
 obtain ⟨x1,y1,r1⟩:=ih k1 ([p] ++ ctx) p1' (fun z hz=>by rcases List.mem_append.1 hz with hz | hz; exact hm' z hz; exact hc z hz) (by simp; omega)
 have hwc:=Kxd ctx [p] (by simp; omega)
 by_cases f1:x1.ffault=0
 rotate_left
 ·have e1:Knw (s,p :: ctx,⟨12,(g:Int),ty,[k0,k1]⟩,1)=some ⟨[],[],x1.ffault,1 :: x1.fpath⟩:=Kzd (i:=1) rfl r1 (by omega) f1
  refine Kzb.bad (f:=x1.ffault) (p:=1 :: x1.fpath) ?_ (Kyh (by omega) (o0.trans (Kze (m:=[p]) rfl m1 r1 (by omega) (by simp; omega) f1))) f1 (by have:=r1.pl; simp; omega)
  rw [Knu.eq_def]
  simp [e0,f0,i0,Knv.eq_def,Kq2,w0,hl2,hp0,hwc,e1,f1]
 obtain ⟨g1,q1,b,nb,lb,bb⟩:=r1.gd f1
 obtain ⟨c1,t1,ht1,hn1,hz1⟩:=Kzx hs g1
 have L1:=Kxo g1
 have e1:Knw (s,p :: ctx,⟨12,(g:Int),ty,[k0,k1]⟩,1)=some x1:=Kzc (i:=1) rfl r1 f1
 have lb':b.length=ctx.length + 1:=by rw [lb]; simp
 obtain ⟨u0,b',rfl⟩:∃ u0 b',b=u0 :: b':=by match b,lb' with | u0 :: b',_=>exact ⟨u0,b',rfl⟩ | [],h=>simp at h
 obtain ⟨hu0,bb'⟩:=Kwr bb
 have o1:=Kzh (out:=[y0]) (nd:=[Kwa a]) (us:=[Kwa []]) (w:=1) (t:=⟨12,(g:Int),ty,[k0,k1]⟩) (m:=[p]) rfl m1 r1 (by simp; omega) f1 (by rw [ht1]; exact Kyl (.inr (by decide))) (Kyj (show (12:Int) ≠ 10 by decide)) nb (by simp <;> omega) (by simp) (by simp) (by simp) (by simp)
 simp only [List.length_cons,List.length_nil,Nat.zero_add,List.drop_succ_cons,List.drop_zero,List.take_succ_cons,List.take_zero,List.nil_append] at o1
 have hl0:=o0.trans (o1.trans (Ky9 (Nat.le_refl _)))
 have lbc:b'.length=ctx.length:=by simp at lb'; omega
 have i1:idx x1.fneeds 0=some (u0:Int):=by rw [nb]; rfl
 have hcut:cut x1.fneeds (some (1:Int)) none none=some (Kwa b'):=by
  rw [nb]
  have:=Kyb (l:=Kwa (u0 :: b')) (m:=1) (by simp [Kwa])
  exact this
 have hcp:=Ks0 (Kwa b') (by rw [Kwb]; omega)
 have hmul:=Kp4 hs.tab hg hm
 have htm:=Koz hs.tab hg hm
 have hle0:=sLe hs.tab hu0 htm
 have hf:=Kz7 (ty:=ty) (ks:=[k0,k1]) (ctx:=ctx) (z:=Kwa (List.replicate ctx.length 0)) (y0:=y0) (y1:=y1) (us':=Kwa []) (u:=[u0]) hs hg hm (p:=p) (by rw [r0.ty,hq,hcg]) (fun x hx=>by simp at hx; rw [hx]; exact hu0) (by simp) ba bb' (by omega) (by omega) (by rw [r1.ty]; omega)
 simp only [List.all_cons,List.all_nil,Bool.and_true] at hf
 have es:=e1
 cases hal:(le s n u0 (ti s n g m)) with
 | false =>
  rw [hal,if_neg (by decide)] at hf
  refine Kzb.bad (f:=9) (p:=[]) ?_ (Kyi (by omega) hl0 hf) (by decide) (by simp; omega)
  rw [Knu.eq_def]
  simp [e0,f0,i0,Knv.eq_def,Kq2,w0,hl2,hp0,hwc,e1,f1,i1,hcut,hcp,hgr,hmul,hle0,hal,Kno]
 | true =>
  rw [hal,if_pos rfl] at hf
  have im:=Kzt (q:=y1.fty) (ns:=Kwn s n (Kwo s n g a) b') (kids:=[y0,y1]) (by rw [r1.ty]; omega) (Kyi (by omega) hl0 hf)
  rw [r1.ty] at im
  have lsc:(Kwo s n g a).length=ctx.length:=by unfold Kwo; rw [List.length_map]; exact la
  have hsc:=Kwu hs hg ba
  have hz0:=Kwx hs hsc
  rw [lsc] at hz0
  have hsum:=Kwz hs g hg (List.replicate ctx.length 0) a (fun x hx=>by rw [List.eq_of_mem_replicate hx]; exact Kwi hs) ba (by simp; omega) (by simp [la])
  rw [hz0] at hsum
  have hs2:=Kx0 hs (Kwo s n g a) b' hsc bb' (by omega) (by omega)
  refine Kzb.good (q:=x1.fty) (ns:=Kwn s n (Kwo s n g a) b') (kids:=[y0,y1]) ?_ im (by omega) g1 (by unfold Kwn; rw [List.length_zipWith]; omega) (Kwt hs hsc bb') rfl (kd2 (Kza.mk' (Kzi (by decide) rfl) r0 f0 (fun _ h=>by cases h) rfl) (Kza.mk' ad r1 f1 hm' rfl))
  rw [Knu.eq_def]
  simp [e0,f0,i0,Knv.eq_def,Kq2,w0,hl2,hp0,hwc,e1,f1,i1,hcut,hcp,hgr,hmul,hle0,hal,na,Kxc ctx.length (by omega),hsum,hs2]
theorem V0i (ih:Kzs s n (tsz (⟨8,N,ty,ks⟩:K01))) (h:tOk (gN s.fSize true) (yN s.fSize true) ctx.length ⟨8,N,ty,ks⟩=true) (hc:∀ q ∈ ctx,TyS s q) (hb:ctx.length + 2 * tsz (⟨8,N,ty,ks⟩:K01) ≤ 1000000):∃ x y,Kzb s n ctx ⟨8,N,ty,ks⟩ x y:=by
 obtain ⟨k0,k1,k2,rfl,p0,p1,p2⟩:=nd3 h (Nat.le_refl _) rfl
 have hz:=Kvo 8 N ty k0 k1 k2
 obtain ⟨g,hN,hg⟩:=Ky0 hs (Ky2 h rfl)
 simp only at hN
 subst hN
 obtain ⟨x0,y0,r0⟩:=ih k0 ctx p0 hc (by omega)
 by_cases f0:x0.ffault=0
 rotate_left
 ·exact Kzu (by decide) (by decide) (by decide) hb r0 f0
 obtain ⟨g0,q0,a,na,la,ba⟩:=r0.gd f0
 obtain ⟨c0,t0,ht0,hn0,hz0⟩:=Kzx hs g0
 have L0:=Kxo g0
 have e0:Knw (s,ctx,⟨8,(g:Int),ty,[k0,k1,k2]⟩,0)=some x0:=Kzc (i:=0) rfl r0 f0
 have C:=V0e hs g0 ht0
 have i0:idx x0.fty 0=some c0:=by rw [ht0]; rfl
 by_cases z0:(Kq5 c0).1=2
 rotate_left
 ·have w0:c0 ≠ 2:=fun h=>z0 (C.two.1 h)
  refine Kzb.bad (f:=5) (p:=[]) ?_ (Kyh (by omega) (Kzf (m:=[]) rfl (Kzo (by decide)) r0 (by simp; omega) f0 (by rw [ht0,Kyq hs hg,if_neg z0]) (by decide))) (by decide) (by simp; omega)
  rw [Knu.eq_def]
  simp [e0,f0,i0,Knv.eq_def,w0,Kno]
 obtain ⟨p,q,hcg,hq,P⟩:=C.sum z0
 have hle:=sLe hs.tab (Kwh hs) hg
 cases hl:le s n 1 g with
 | false =>
  have hl2:K9e (s,1,(g:Int))=some false:=by rw [← hl]; exact hle
  refine Kzb.bad (f:=8) (p:=[]) ?_ (Kyh (by omega) (Kzf (m:=[]) rfl (Kzo (by decide)) r0 (by simp; omega) f0 (by rw [ht0,Kyq hs hg,if_pos z0,hl]; rfl) (by decide))) (by decide) (by simp; omega)
  rw [Knu.eq_def]
  simp [e0,f0,i0,Knv.eq_def,hcg,hl2,Kno]
 | true =>
 have hl2:K9e (s,1,(g:Int))=some true:=by rw [← hl]; exact hle
 have o0:=Kzh (out:=[]) (nd:=[]) (us:=[]) (w:=0) (t:=⟨8,(g:Int),ty,[k0,k1,k2]⟩) (m:=[]) rfl (Kzo (by decide)) r0 (by simp; omega) f0 (by rw [ht0,Kyq hs hg,if_pos z0,hl]; rfl) (Kyj (show (8:Int) ≠ 10 by decide)) na (by simp <;> omega) (by simp) (by simp) (by simp) (by simp)
 have hp0:Kc4 (x0.fty,0)=some p:=by rw [hq,hcg]; exact P.p0
 have hp1:Kc4 (x0.fty,1)=some q:=by rw [hq,hcg]; exact P.p1
 have ad1:Kny (⟨8,(g:Int),ty,[k0,k1,k2]⟩,((1:Nat):Int),y0.fty)=some [p]:=by rw [r0.ty,hq,hcg]; exact Kzl P
 have ad2:Kny (⟨8,(g:Int),ty,[k0,k1,k2]⟩,((2:Nat):Int),y0.fty)=some [q]:=by rw [r0.ty,hq,hcg]; exact Kzm P
 have hm1:∀ z ∈ [p],TyS s z:=fun z hz=>by simp at hz; rw [hz]; exact P.ya
 have hm2:∀ z ∈ [q],TyS s z:=fun z hz=>by simp at hz; rw [hz]; exact P.yb
 have m1:Ky6 ⟨8,(g:Int),ty,[k0,k1,k2]⟩ [y0] 1=some [p]:=Kzq (by decide) ad1
 have p1':Ky1 s ([p] ++ ctx).length k1 (tsz (⟨8,(g:Int),ty,[k0,k1,k2]⟩:K01)):=by
  have e:([p] ++ ctx).length=ctx.length + Krb 8 1:=by simp [Krb]
  rw [e]; exact p1
 obtain ⟨x1,y1,r1⟩:=ih k1 ([p] ++ ctx) p1' (fun z hz=>by rcases List.mem_append.1 hz with hz | hz; exact hm1 z hz; exact hc z hz) (by simp; omega)
 have hw1:=Kxd ctx [p] (by simp; omega)
 by_cases f1:x1.ffault=0
 rotate_left
 ·have e1:Knw (s,p :: ctx,⟨8,(g:Int),ty,[k0,k1,k2]⟩,1)=some ⟨[],[],x1.ffault,1 :: x1.fpath⟩:=Kzd (i:=1) rfl r1 (by omega) f1
  refine Kzb.bad (f:=x1.ffault) (p:=1 :: x1.fpath) ?_ (Kyh (by omega) (o0.trans (Kze (m:=[p]) rfl m1 r1 (by omega) (by simp; omega) f1))) f1 (by have:=r1.pl; simp; omega)
  rw [Knu.eq_def]
  simp [e0,f0,i0,Knv.eq_def,hcg,hl2,hp0,hp1,hw1,e1,f1]
 obtain ⟨g1,q1,b,nb,lb,bb⟩:=r1.gd f1
 obtain ⟨c1,t1,ht1,hn1,hz1⟩:=Kzx hs g1
 have L1:=Kxo g1
 have e1:Knw (s,p :: ctx,⟨8,(g:Int),ty,[k0,k1,k2]⟩,1)=some x1:=Kzc (i:=1) rfl r1 f1
 have lb':b.length=ctx.length + 1:=by rw [lb]; simp
 obtain ⟨u0,b',rfl⟩:∃ u0 b',b=u0 :: b':=by match b,lb' with | u0 :: b',_=>exact ⟨u0,b',rfl⟩ | [],h=>simp at h
 obtain ⟨hu0,bb'⟩:=Kwr bb
 have lbc:b'.length=ctx.length:=by simp at lb'; omega
 have i1:idx x1.fneeds 0=some (u0:Int):=by rw [nb]; rfl
 have hcut1:cut x1.fneeds (some (1:Int)) none none=some (Kwa b'):=by rw [nb]; exact Ku2 _ _
 have hcp1:=Ks0 (Kwa b') (by rw [Kwb]; omega)
 have o1:=Kzh (out:=[y0]) (nd:=[Kwa a]) (us:=[Kwa []]) (w:=1) (t:=⟨8,(g:Int),ty,[k0,k1,k2]⟩) (m:=[p]) rfl m1 r1 (by simp; omega) f1 (by rw [ht1]; exact Kyl (.inr (by decide))) (Kyj (show (8:Int) ≠ 10 by decide)) nb (by simp <;> omega) (by simp) (by simp) (by simp) (by simp)
 simp only [List.length_cons,List.length_nil,Nat.zero_add,List.drop_succ_cons,List.drop_zero,List.take_succ_cons,List.take_zero,List.nil_append,List.cons_append] at o1
 have m2:Ky6 ⟨8,(g:Int),ty,[k0,k1,k2]⟩ [y0,y1] 2=some [q]:=Kzq (by decide) ad2
 have p2':Ky1 s ([q] ++ ctx).length k2 (tsz (⟨8,(g:Int),ty,[k0,k1,k2]⟩:K01)):=by
  have e:([q] ++ ctx).length=ctx.length + Krb 8 2:=by simp [Krb]
  rw [e]; exact p2
 obtain ⟨x2,y2,r2⟩:=ih k2 ([q] ++ ctx) p2' (fun z hz=>by rcases List.mem_append.1 hz with hz | hz; exact hm2 z hz; exact hc z hz) (by simp; omega)
 have hw2:=Kxd ctx [q] (by simp; omega)
 by_cases f2:x2.ffault=0
 rotate_left
 ·have e2:Knw (s,q :: ctx,⟨8,(g:Int),ty,[k0,k1,k2]⟩,2)=some ⟨[],[],x2.ffault,2 :: x2.fpath⟩:=Kzd (i:=2) rfl r2 (by omega) f2
  refine Kzb.bad (f:=x2.ffault) (p:=2 :: x2.fpath) ?_ (Kyh (by omega) (o0.trans (o1.trans (Kze (m:=[q]) rfl m2 r2 (by omega) (by simp; omega) f2)))) f2 (by have:=r2.pl; simp; omega)
  rw [Knu.eq_def]
  simp [e0,f0,i0,Knv.eq_def,hcg,hl2,hp0,hp1,hw1,e1,f1,hcut1,hcp1,hw2,e2,f2]
 obtain ⟨g2,q2,d,nd,ld,bd⟩:=r2.gd f2
 obtain ⟨c2,t2,ht2,hn2,hz2⟩:=Kzx hs g2
 have L2:=Kxo g2
 have e2:Knw (s,q :: ctx,⟨8,(g:Int),ty,[k0,k1,k2]⟩,2)=some x2:=Kzc (i:=2) rfl r2 f2
 have ld':d.length=ctx.length + 1:=by rw [ld]; simp
 obtain ⟨v0,d',rfl⟩:∃ v0 d',d=v0 :: d':=by match d,ld' with | v0 :: d',_=>exact ⟨v0,d',rfl⟩ | [],h=>simp at h
 obtain ⟨hv0,bd'⟩:=Kwr bd
 have ldc:d'.length=ctx.length:=by simp at ld'; omega
 have i2:idx x2.fneeds 0=some (v0:Int):=by rw [nd]; rfl
 have hcut2:cut x2.fneeds (some (1:Int)) none none=some (Kwa d'):=by rw [nd]; exact Ku2 _ _
 have o2:=Kzh (out:=[y0,y1]) (nd:=[Kwa a,Kwa b']) (us:=[Kwa [],Kwa [u0]]) (w:=2) (t:=⟨8,(g:Int),ty,[k0,k1,k2]⟩) (m:=[q]) rfl m2 r2 (by simp; omega) f2 (by rw [ht2]; exact Kyl (.inr (by decide))) (Kyj (show (8:Int) ≠ 10 by decide)) nd (by simp <;> omega) (by simp) (by simp) (by simp) (by simp)
 simp only [List.length_cons,List.length_nil,Nat.zero_add,List.drop_succ_cons,List.drop_zero,List.take_succ_cons,List.take_zero,List.nil_append,List.cons_append] at o2
 have hl0:=o0.trans (o1.trans (o2.trans (Ky9 (Nat.le_refl _))))
 have hle0:=sLe hs.tab hu0 hg
 have hle1:=sLe hs.tab hv0 hg
 have hf:=Kz8 (ty:=ty) (ks:=[k0,k1,k2]) (ctx:=ctx) (z:=Kwa (List.replicate ctx.length 0)) (y0:=y0) (y1:=y1) (y2:=y2) (us':=Kwa []) (u:=[u0]) (v:=[v0]) hs hg (fun x hx=>by simp at hx; rw [hx]; exact hu0) (by simp) (fun x hx=>by simp at hx; rw [hx]; exact hv0) (by simp) ba bb' bd' (by omega) (by omega) (by omega) (by rw [r2.ty]; omega) (by rw [r1.ty]; omega)
 simp only [List.all_cons,List.all_nil,Bool.and_true] at hf
 rw [r1.ty,r2.ty] at hf
 have hsm:=Kux x1.fty x2.fty (by omega)
 have hj:=Kx2 hs b' d' bb' bd' (by omega) (by omega)
 have lj:(Kwp s n b' d').length=ctx.length:=by unfold Kwp; rw [List.length_zipWith]; omega
 by_cases hqq:x1.fty=x2.fty
 rotate_left
 ·rw [if_neg hqq] at hf
  rw [show (x1.fty == x2.fty)=false from beq_eq_false_iff_ne.2 hqq] at hsm
  refine Kzb.bad (f:=3) (p:=[]) ?_ (Kyi (by omega) hl0 hf) (by decide) (by simp; omega)
  rw [Knu.eq_def]
  simp [e0,f0,i0,Knv.eq_def,hcg,hl2,hp0,hp1,hw1,e1,f1,hcut1,hcp1,hw2,e2,f2,hsm,Kno]
 rw [if_pos hqq] at hf
 rw [show (x1.fty == x2.fty)=true from beq_iff_eq.2 hqq] at hsm
 by_cases hal:le s n u0 g=true∧le s n v0 g=true
 rotate_left
 ·rw [if_neg hal] at hf
  refine Kzb.bad (f:=9) (p:=[]) ?_ (Kyi (by omega) hl0 hf) (by decide) (by simp; omega)
  rw [Knu.eq_def]
  simp [e0,f0,i0,Knv.eq_def,hcg,hl2,hp0,hp1,hw1,e1,f1,hcut1,hcp1,hw2,e2,f2,hsm,i1,i2,hle0,hle1,hcut2,hj,Kno]
  cases q1:le s n v0 g with
  | false=>simp
  | true =>
   cases q2:le s n u0 g with
   | false=>simp
   | true=>exact absurd ⟨q2,q1⟩ hal
 rw [if_pos hal] at hf
 have im:=Kzt (q:=x1.fty) (ns:=Kwn s n (Kwo s n g a) (Kwp s n b' d')) (kids:=[y0,y1,y2]) (by omega) (Kyi (by omega) hl0 hf)
 have lsc:(Kwo s n g a).length=ctx.length:=by unfold Kwo; rw [List.length_map]; exact la
 have hsc:=Kwu hs hg ba
 have hz0:=Kwx hs hsc
 rw [lsc] at hz0
 have hsum:=Kwz hs g hg (List.replicate ctx.length 0) a (fun x hx=>by rw [List.eq_of_mem_replicate hx]; exact Kwi hs) ba (by simp; omega) (by simp [la])
 rw [hz0] at hsum
 have hs2:=Kx0 hs (Kwo s n g a) (Kwp s n b' d') hsc (Kwv hs bb' bd') (by omega) (by omega)
 refine Kzb.good (q:=x1.fty) (ns:=Kwn s n (Kwo s n g a) (Kwp s n b' d')) (kids:=[y0,y1,y2]) ?_ im (by omega) g1 (by unfold Kwn; rw [List.length_zipWith]; omega) (Kwt hs hsc (Kwv hs bb' bd')) rfl (kd3 (Kza.mk' (Kzi (by decide) rfl) r0 f0 (fun _ h=>by cases h) rfl) (Kza.mk' ad1 r1 f1 hm1 rfl) (Kza.mk' ad2 r2 f2 hm2 rfl))
 rw [Knu.eq_def]
 simp [e0,f0,i0,Knv.eq_def,hcg,hl2,hp0,hp1,hw1,e1,f1,hcut1,hcp1,hw2,e2,f2,hsm,i1,i2,hle0,hle1,hal.1,hal.2,hcut2,hj,na,Kxc ctx.length (by omega),hsum,hs2]
theorem V0j:∀ (m:Nat) (t:K01) (ctx:List (List Int)),tsz t ≤ m→tOk (gN s.fSize true) (yN s.fSize true) ctx.length t=true→(∀ q ∈ ctx,TyS s q)→ctx.length + 2 * tsz t ≤ 1000000→∃ x y,Kzb s n ctx t x y
 | 0,t,ctx,hm,_,_,_=>by obtain ⟨op,N,ty,ks⟩:=t; rw [tsz] at hm; omega
 | m + 1,t,ctx,hm,h,hc,hb=>by
  have ih:Kzs s n (tsz t):=fun k c hk hc hb=>V0j m k c (by have:=hk.sz; omega) hk.ok hc hb
  obtain ⟨op,N,ty,ks⟩:=t
  have hop:=(Krz (Krw h).1).1
  simp only at hop
  rcases Kr5 hop with rfl | rfl | rfl | rfl | rfl | rfl | rfl | rfl | rfl | rfl | rfl | rfl | rfl
  ·exact Kzv hs rfl h hc hb
  ·exact Kzw hs rfl h hb
  ·exact V03 hs ih h hc hb
  ·exact V04 hs ih h hc hb
  ·exact V02 hs ih h hc hb
  ·exact V0g hs ih h hc hb
  ·exact Kzy hs ih h hc hb
  ·exact Kzz hs ih h hc hb
  ·exact V0i hs ih h hc hb
  ·exact V01 hs ih h hc hb
  ·exact V0f hs ih h hc hb
  ·exact V00 hs ih h hc hb
  ·exact V0h hs ih h hc hb
end
def Gv {α:Type} (x:Option α) (Q:α→Prop):Prop:=∃ a,x=some a∧Q a
theorem Gv.of {α:Type} {a:α} {Q:α→Prop} (h:Q a):Gv (some a) Q:=⟨a,rfl,h⟩
theorem Gv.eq {α:Type} {x:Option α} {a:α} {Q:α→Prop} (e:x=some a) (h:Q a):Gv x Q:=⟨a,e,h⟩
theorem Gv.bind {α β:Type} {x:Option α} {f:α→Option β} {Q:α→Prop} {R:β→Prop} (h:Gv x Q) (hf:∀ a,Q a→Gv (f a) R):Gv (x >>= f) R:=by
 obtain ⟨a,rfl,hq⟩:=h
 exact hf a hq
theorem Gv.ite {α:Type} {b:Bool} {x y:Option α} {Q:α→Prop} (h1:b=true→Gv x Q) (h2:b=false→Gv y Q):Gv (if b=true then x else y) Q:=by
 cases b
 ·exact h2 rfl
 ·exact h1 rfl
structure V0k (c:K02):Prop where
 lo:0 ≤ c.fi
 hi:c.fi ≤ c.fb.length
 ln:c.fb.length ≤ 1048576
 by_:∀ v ∈ c.fb,0 ≤ v∧v ≤ 255
theorem V0l (x:Int):0 ≤ Q2p .and .i64 x 255∧Q2p .and .i64 x 255 ≤ 255:=by
 have h:(BitVec.ofInt 64 x &&& BitVec.ofInt 64 255).toNat ≤ 255:=by
  rw [BitVec.toNat_and]
  exact Nat.le_trans Nat.and_le_right (by decide)
 have e:Q2p .and .i64 x 255=wr (((BitVec.ofInt 64 x &&& BitVec.ofInt 64 255).toNat:Nat):Int):=rfl
 rw [e,Koq (by omega) (by omega)]
 omega
theorem V0m {α:Type} {l:List α} {i:Int} (h0:0 ≤ i) (h:i < l.length):∃ v,idx l i=some v∧v ∈ l:=by
 have hi:i.toNat < l.length:=by omega
 refine ⟨l[i.toNat],?_,List.getElem_mem hi⟩
 unfold idx
 rw [if_pos h0,List.getElem?_eq_getElem hi]
theorem V0n (code:List Int) (hl:code.length ≤ 1048576):∀ (k i:Nat) (h:Int),i + k=code.length→Gv (K7k (code,h,(i:Int))) (fun _=>True):=by
 intro k
 induction k with
 | zero =>
  intro i h hi
  rw [K7k.eq_def]
  simp only
  rw [Kou (by omega),if_neg (by decide),bs,if_neg (by decide)]
  exact .of trivial
 | succ k ih =>
  intro i h hi
  rw [K7k.eq_def]
  simp only
  rw [Kot (by omega),if_pos rfl,bs]
  refine .ite (fun _=>?_) (fun _=>.of trivial)
  rw [Kor (by omega),bs,Kos (by omega)]
  exact ih (i + 1) _ (by omega)
theorem V0o (code:List Int) (hl:code.length ≤ 1048576) (hb:∀ v ∈ code,0 ≤ v∧v ≤ 255):Gv (K7n code) V0k:=by
 unfold K7n
 refine Gv.bind (V0n code hl code.length 0 _ (by omega)) (fun h _=>.of ⟨Int.le_refl _,?_,hl,hb⟩)
 simp
theorem V0p {c:K02} (h:V0k c):Gv (K7q c) (fun r=>(0 ≤ r.1∧r.1 ≤ 255)∧V0k r.2):=by
 unfold K7q
 by_cases hi:c.fi < c.fb.length
 ·obtain ⟨v,e,hv⟩:=V0m h.lo hi
  have h3:=h.ln
  have h4:=h.lo
  rw [decide_eq_true hi,if_pos rfl,e,bs,bs]
  refine .of ⟨V0l _,⟨?_,?_,h.ln,h.by_⟩⟩
  ·simp only
   rw [Koq (by omega) (by omega)]; omega
  ·simp only
   rw [Koq (by omega) (by omega)]; omega
 ·rw [decide_eq_false hi,if_neg (by decide),bs]
  exact .of ⟨V0l _,⟨h.lo,h.hi,h.ln,h.by_⟩⟩
def V0q (n:Int) (x:Int):Prop:=(0 < n→0 ≤ x∧x < n)∧(n ≤ 0→x=0)
theorem V0r {c:K02} (h:V0k c) (n:Int):Gv (K7t (c,n)) (fun r=>V0q n r.1∧V0k r.2):=by
 unfold K7t
 simp only
 refine .ite (fun hb=>?_) (fun hb=>?_)
 ·have hb:=of_decide_eq_true hb
  exact .of ⟨⟨fun h=>absurd h (by omega),fun _=>rfl⟩,h⟩
 have hb:=of_decide_eq_false hb
 have tm:∀ x:Int,0 ≤ x→V0q n (Int.tmod x n):=fun x hx=>⟨fun hn=>⟨Int.tmod_nonneg n hx,Int.tmod_lt_of_pos x hn⟩,fun hn=>absurd hn (by omega)⟩
 have ck:chk (n ≠ 0)=some ():=by unfold chk; rw [if_pos (by omega)]
 refine .ite (fun _=>?_) (fun _=>?_)
 ·refine Gv.bind (V0p h) ?_
  rintro ⟨x,c1⟩ ⟨hx,h1⟩
  simp only at hx h1 ⊢
  rw [ck,bs]
  exact .of ⟨tm _ hx.1,h1⟩
 ·refine Gv.bind (V0p h) ?_
  rintro ⟨x,c1⟩ ⟨hx,h1⟩
  simp only at hx h1 ⊢
  refine Gv.bind (V0p h1) ?_
  rintro ⟨y,c2⟩ ⟨hy,h2⟩
  simp only at hy h2 ⊢
  refine Gv.bind (V0p h2) ?_
  rintro ⟨z,c3⟩ ⟨hz,h3⟩
  simp only at hz h3 ⊢
  refine Gv.bind (V0p h3) ?_
  rintro ⟨w,c4⟩ ⟨hw,h4⟩
  simp only at hw h4 ⊢
  rw [ck,bs]
  refine .of ⟨?_,h4⟩
  simp only
  have e1:wr (x * 16777216)=x * 16777216:=Koq (by omega) (by omega)
  have e2:wr (y * 65536)=y * 65536:=Koq (by omega) (by omega)
  have e3:wr (z * 256)=z * 256:=Koq (by omega) (by omega)
  rw [e1,e2,e3,Koq (x:=x * 16777216 + y * 65536) (by omega) (by omega),Koq (x:=x * 16777216 + y * 65536 + z * 256) (by omega) (by omega),Koq (x:=x * 16777216 + y * 65536 + z * 256 + w) (by omega) (by omega)]
  exact tm _ (by omega)
theorem V0s {c:K02} (h:V0k c) (n:Int):Gv (Kc7 (c,n)) (fun r=>V0k r.2):=by
 unfold Kc7
 refine Gv.bind (V0r h n) ?_
 rintro ⟨x,c1⟩ ⟨_,h1⟩
 exact .of h1
theorem V0t {c:K02} (h:V0k c) (l:List Int) (hl:0 < l.length):Gv (Kcr (c,l)) (fun r=>r.1 ∈ l∧V0k r.2):=by
 unfold Kcr
 refine Gv.bind (V0r h _) ?_
 rintro ⟨x,c1⟩ ⟨⟨hx,_⟩,h1⟩
 simp only at hx h1 ⊢
 have:=hx (by omega)
 obtain ⟨v,e,hv⟩:=V0m this.1 this.2
 rw [e,bs]
 exact .of ⟨hv,h1⟩
theorem V0u {c:K02} (h:V0k c):Gv (Ke9 c) (fun r=>(-9223372036854775808 ≤ r.1∧r.1 ≤ 9223372036854775807)∧V0k r.2):=by
 unfold Ke9
 refine Gv.bind (V0t h _ (by decide)) ?_
 rintro ⟨x,c1⟩ ⟨hx,h1⟩
 refine .of ⟨?_,h1⟩
 simp only [List.mem_cons,List.not_mem_nil,or_false] at hx
 simp only
 omega
def V0v (n a b:Nat):Int:=((min (a + b) (n + 1):Nat):Int)
def V0w (n a b:Nat):Int:=((min (a * b) (n + 1):Nat):Int)
def V0x (n:Nat) (bd:Bool) (a b:Nat):Bool:=(a == b) || (b == n + 1) || (bd && decide (a ≤ b))
def V0y (n:Nat) (bd:Bool):K00:=⟨((n + 2:Nat):Int),(List.range' 0 (n + 2)).flatMap (fun a=>(List.range' 0 (n + 2)).map (V0v n a)),(List.range' 0 (n + 2)).flatMap (fun a=>(List.range' 0 (n + 2)).map (V0w n a)),(List.range' 0 (n + 2)).flatMap (fun a=>(List.range' 0 (n + 2)).map (V0x n bd a))⟩
theorem V0z {a b:Nat} (h:a ≤ b):decide ((a:Int) ≤ (b:Int))=true:=decide_eq_true (by omega)
theorem V10 {a b:Nat} (h:b < a):decide ((a:Int) ≤ (b:Int))=false:=decide_eq_false (by omega)
theorem V11 (n a:Nat) (bd:Bool) (hn:n ≤ 14) (ha:a ≤ n + 1):∀ (k b:Nat) (P T:List Int) (B:List Bool),b + k=n + 2→P.length ≤ 1000000→T.length ≤ 1000000→B.length ≤ 1000000→P.length + k ≤ 1000000→T.length + k ≤ 1000000→B.length + k ≤ 1000000 →
  K83 ((n:Int),bd,(a:Int),P,T,B,(b:Int))=some (P ++ (List.range' b k).map (V0v n a),T ++ (List.range' b k).map (V0w n a),B ++ (List.range' b k).map (V0x n bd a)):=by
 intro k
 induction k with
 | zero =>
  intro b P T B hb _ _ _ _ _ _
  rw [K83.eq_def]
  simp only
  rw [Kos (by omega),V10 (by omega),if_neg (by decide)]
  simp
 | succ k ih =>
  intro b P T B hb h1 h2 h3 h4 h5 h6
  have hab:a * b ≤ 16 * 16:=Nat.mul_le_mul (by omega) (by omega)
  have e2:wr ((a:Int) * (b:Int))=((a * b:Nat):Int):=by
   rw [← Int.natCast_mul,Koq (by omega) (by omega)]
  rw [K83.eq_def]
  simp only
  rw [Kos (n:=n) (by omega),V0z (by omega),if_pos rfl,Ktk (by omega) (by omega),Ktl,bs,e2,Ktl,bs,Kry (by simp; omega),bs,Kry (by simp; omega),bs]
  have e3:((if ((a:Int) == (b:Int))=true then Qe5 (B.length + [true].length) 1 >>= fun _=>some (B ++ [true]) else if ((b:Int) == ((n + 1:Nat):Int))=true then Qe5 (B.length + [true].length) 1 >>= fun _=>some (B ++ [true]) else if bd=true then Qe5 (B.length + [decide ((a:Int) ≤ (b:Int))].length) 1 >>= fun _=>some (B ++ [decide ((a:Int) ≤ (b:Int))]) else Qe5 (B.length + [false].length) 1 >>= fun _=>some (B ++ [false])):Option (List Bool))=some (B ++ [V0x n bd a b]):=by
   have f:∀ x:Bool,Qe5 (B.length + [x].length) 1=some ():=fun x=>Kry (by simp; omega)
   rw [f,f,f,bs,bs,bs,Kp7,Kp7]
   unfold V0x
   by_cases q1:a=b
   ·rw [if_pos (by simp [q1])]; simp [q1]
   ·rw [if_neg (by simp [q1])]
    by_cases q2:b=n + 1
    ·rw [if_pos (by simp [q2])]; simp [q2]
    ·rw [if_neg (by simp [q2])]
     cases bd with
     | false=>simp [q1,q2]
     | true=>simp [q1,q2]
  rw [e3,bs,Kos (by omega),ih (b + 1) _ _ _ (by omega) (by simp; omega) (by simp; omega) (by simp; omega) (by simp; omega) (by simp; omega) (by simp; omega)]
  simp [List.range'_succ,V0v,V0w]
theorem V12 (n:Nat) (bd:Bool) (hn:n ≤ 14):∀ (k a:Nat) (P T:List Int) (B:List Bool),a + k=n + 2→P.length + k * 16 ≤ 10000→T.length + k * 16 ≤ 10000→B.length + k * 16 ≤ 10000 →
  K87 ((n:Int),bd,P,T,B,(a:Int))=some (P ++ (List.range' a k).flatMap (fun a=>(List.range' 0 (n + 2)).map (V0v n a)),T ++ (List.range' a k).flatMap (fun a=>(List.range' 0 (n + 2)).map (V0w n a)),B ++ (List.range' a k).flatMap (fun a=>(List.range' 0 (n + 2)).map (V0x n bd a))):=by
 intro k
 induction k with
 | zero =>
  intro a P T B hb _ _ _
  rw [K87.eq_def]
  simp only
  rw [Kos (by omega),V10 (by omega),if_neg (by decide)]
  simp
 | succ k ih =>
  intro a P T B hb h1 h2 h3
  rw [K87.eq_def]
  simp only
  rw [Kos (n:=n) (by omega),V0z (by omega),if_pos rfl,show (0:Int)=((0:Nat):Int) from rfl,V11 n a bd hn (by omega) (n + 2) 0 P T B (by omega) (by omega) (by omega) (by omega) (by omega) (by omega) (by omega),bs]
  simp only
  rw [Kos (by omega),ih (a + 1) _ _ _ (by omega) (by simp; omega) (by simp; omega) (by simp; omega)]
  simp [List.range'_succ,List.flatMap_cons]
theorem V13 (n:Nat) (bd:Bool) (h1:1 ≤ n) (h2:n ≤ 14):K8a ((n:Int),bd)=some (V0y n bd):=by
 unfold K8a
 simp only
 rw [sIn,bs,show inB (n:Int) 1 14=true from by unfold inB; rw [decide_eq_true (by omega),decide_eq_true (by omega)]; rfl,if_pos rfl,show (0:Int)=((0:Nat):Int) from rfl,V12 n bd h2 (n + 2) 0 [] [] [] (by omega) (by simp; omega) (by simp; omega) (by simp; omega),bs]
 simp only
 rw [show wr ((n:Int) + 2)=((n + 2:Nat):Int) from by rw [Koq (by omega) (by omega)]; omega]
 rfl
theorem V14 (n:Nat) (h1:1 ≤ n) (h2:n ≤ 14):K8g (n:Int)=some (V0y n false):=by unfold K8g; rw [V13 n false h1 h2]; rfl
theorem V15 (n:Nat) (h1:1 ≤ n) (h2:n ≤ 14):K8d (n:Int)=some (V0y n true):=by unfold K8d; rw [V13 n true h1 h2]; rfl
def V16 (n a:Nat):Nat:=(n + 1 - a) % (n + 1)
def V17 (n a b:Nat):Int:=(((n + 1 - max (V16 n a) (V16 n b)) % (n + 1):Nat):Int)
def V18 (n a b:Nat):Int:=(((n + 1 - min (V16 n a) (V16 n b)) % (n + 1):Nat):Int)
def V19 (n a b:Nat):Bool:=decide (V16 n a ≤ V16 n b)
def V1a (n:Nat):K00:=⟨((n + 1:Nat):Int),(List.range' 0 (n + 1)).flatMap (fun a=>(List.range' 0 (n + 1)).map (V17 n a)),(List.range' 0 (n + 1)).flatMap (fun a=>(List.range' 0 (n + 1)).map (V18 n a)),(List.range' 0 (n + 1)).flatMap (fun a=>(List.range' 0 (n + 1)).map (V19 n a))⟩
theorem V1b (a b:Nat):K8j ((a:Int),(b:Int))=some ((max a b:Nat):Int):=by
 unfold K8j
 simp only
 by_cases h:b < a
 ·rw [decide_eq_true (by omega),if_pos rfl,Nat.max_eq_left (by omega)]
 ·rw [decide_eq_false (by omega),if_neg (by decide),Nat.max_eq_right (by omega)]
theorem V1c (a b:Nat):Int.tmod (a:Int) (b:Int)=((a % b:Nat):Int):=(Int.ofNat_tmod a b).symm
theorem V1d (n a:Nat) (hn:n ≤ 1000) (ha:a ≤ n + 1):Int.tmod (wr (((n + 1:Nat):Int) - (a:Int))) ((n + 1:Nat):Int)=(((n + 1 - a) % (n + 1):Nat):Int):=by
 rw [Koq (by omega) (by omega),show ((n + 1:Nat):Int) - (a:Int)=((n + 1 - a:Nat):Int) from by omega,V1c]
theorem V1e (n a:Nat):V16 n a ≤ n:=by
 have:=Nat.mod_lt (n + 1 - a) (show 0 < n + 1 by omega)
 unfold V16
 omega
theorem V1f (n a:Nat) (hn:n ≤ 15) (ha:a ≤ n):∀ (k b:Nat) (P T:List Int) (B:List Bool),b + k=n + 1→P.length + k ≤ 1000000→T.length + k ≤ 1000000→B.length + k ≤ 1000000 →
  K8n ((n:Int),(a:Int),P,T,B,(b:Int))=some (P ++ (List.range' b k).map (V17 n a),T ++ (List.range' b k).map (V18 n a),B ++ (List.range' b k).map (V19 n a)):=by
 intro k
 induction k with
 | zero =>
  intro b P T B hb _ _ _
  rw [K8n.eq_def]
  simp only
  rw [V10 (by omega),if_neg (by decide)]
  simp
 | succ k ih =>
  intro b P T B hb h4 h5 h6
  have ck:chk (((n + 1:Nat):Int) ≠ 0)=some ():=by unfold chk; rw [if_pos (by omega)]
  have m1:=V1e n a
  have m2:=V1e n b
  have x1:Int.tmod (wr (((n + 1:Nat):Int) - (a:Int))) ((n + 1:Nat):Int)=((V16 n a:Nat):Int):=V1d n a (by omega) (by omega)
  have x2:Int.tmod (wr (((n + 1:Nat):Int) - (b:Int))) ((n + 1:Nat):Int)=((V16 n b:Nat):Int):=V1d n b (by omega) (by omega)
  rw [K8n.eq_def]
  simp only
  rw [V0z (by omega),if_pos rfl,Kos (n:=n) (by omega),ck,bs,bs,x1,x2,V1b,bs,bs,Ktl,bs,bs,V1d n _ (by omega) (by omega),V1d n _ (by omega) (by omega),Kry (by simp; omega),bs,Kry (by simp; omega),bs,Kry (by simp; omega),bs,Kos (by omega),ih (b + 1) _ _ _ (by omega) (by simp; omega) (by simp; omega) (by simp; omega)]
  simp [List.range'_succ,V17,V18,V19]
theorem V1g (n:Nat) (hn:n ≤ 15):∀ (k a:Nat) (P T:List Int) (B:List Bool),a + k=n + 1→P.length + k * 16 ≤ 10000→T.length + k * 16 ≤ 10000→B.length + k * 16 ≤ 10000 →
  K8r ((n:Int),P,T,B,(a:Int))=some (P ++ (List.range' a k).flatMap (fun a=>(List.range' 0 (n + 1)).map (V17 n a)),T ++ (List.range' a k).flatMap (fun a=>(List.range' 0 (n + 1)).map (V18 n a)),B ++ (List.range' a k).flatMap (fun a=>(List.range' 0 (n + 1)).map (V19 n a))):=by
 intro k
 induction k with
 | zero =>
  intro a P T B hb _ _ _
  rw [K8r.eq_def]
  simp only
  rw [V10 (by omega),if_neg (by decide)]
  simp
 | succ k ih =>
  intro a P T B hb h1 h2 h3
  rw [K8r.eq_def]
  simp only
  rw [V0z (by omega),if_pos rfl,show (0:Int)=((0:Nat):Int) from rfl,V1f n a hn (by omega) (n + 1) 0 P T B (by omega) (by omega) (by omega) (by omega),bs]
  simp only
  rw [Kos (by omega),ih (a + 1) _ _ _ (by omega) (by simp; omega) (by simp; omega) (by simp; omega)]
  simp [List.range'_succ,List.flatMap_cons]
theorem V1h (n:Nat) (h1:1 ≤ n) (h2:n ≤ 15):K8u (n:Int)=some (V1a n):=by
 unfold K8u
 rw [sIn,bs,show inB (n:Int) 1 15=true from by unfold inB; rw [decide_eq_true (by omega),decide_eq_true (by omega)]; rfl,if_pos rfl,show (0:Int)=((0:Nat):Int) from rfl,V1g n h2 (n + 1) 0 [] [] [] (by omega) (by simp; omega) (by simp; omega) (by simp; omega),bs]
 simp only
 rw [Kos (by omega)]
 rfl
def V1i (n g:Nat):Nat:=if g=0 then 0 else if g=1 then 1 else if g ≤ n + 1 then (g - 1) / n else g / n
def V1j (n g:Nat):Nat:=if g < 2 then g else if g ≤ n + 1 then (g - 1) % n else g % n
def V1k (n x y:Nat):Nat:=if x * n + y=0 then 0 else if x * n + y=n + 1 then 1 else if x * n + y < n + 1 then x * n + y + 1 else x * n + y
theorem V1l (a b:Nat):Int.tdiv (a:Int) (b:Int)=((a / b:Nat):Int):=(Int.ofNat_tdiv a b).symm
theorem V1m (n g:Nat) (hn:1 ≤ n) (hn2:n ≤ 100) (hg:g ≤ 1000):Kal ((n:Int),(g:Int))=some ((V1i n g:Nat):Int):=by
 have ck:chk ((n:Int) ≠ 0)=some ():=by unfold chk; rw [if_pos (by omega)]
 have hd:∀ x,x ≤ 1000→x / n ≤ 1000:=fun x hx=>Nat.le_trans (Nat.div_le_self _ _) hx
 unfold Kal V1i
 simp only
 by_cases h0:g=0
 ·rw [if_pos (by simp [h0]),if_pos h0]; rfl
 rw [if_neg (by simpa using h0),if_neg h0]
 by_cases h1:g=1
 ·rw [if_pos (by simp [h1]),if_pos h1]; rfl
 rw [if_neg (by simp; omega),if_neg h1,Kos (by omega)]
 by_cases h2:g ≤ n + 1
 ·rw [V0z h2,if_pos rfl,if_pos h2,ck,bs,Koq (x:=(g:Int) - 1) (by omega) (by omega),show (g:Int) - 1=((g - 1:Nat):Int) from by omega,V1l]
  have:=hd (g - 1) (by omega)
  generalize (g - 1) / n=q at *
  rw [Koq (by omega) (by omega)]
 ·rw [V10 (by omega),if_neg (by decide),if_neg h2,ck,bs,V1l]
  have:=hd g hg
  generalize g / n=q at *
  rw [Koq (by omega) (by omega)]
theorem V1n (n g:Nat) (hn:1 ≤ n) (hn2:n ≤ 100) (hg:g ≤ 1000):Kao ((n:Int),(g:Int))=some ((V1j n g:Nat):Int):=by
 have ck:chk ((n:Int) ≠ 0)=some ():=by unfold chk; rw [if_pos (by omega)]
 unfold Kao V1j
 simp only
 by_cases h0:g < 2
 ·rw [decide_eq_true (by omega),if_pos rfl,if_pos h0]
 rw [decide_eq_false (by omega),if_neg (by decide),if_neg h0,Kos (by omega)]
 by_cases h2:g ≤ n + 1
 ·rw [V0z h2,if_pos rfl,if_pos h2,ck,bs,Koq (x:=(g:Int) - 1) (by omega) (by omega),show (g:Int) - 1=((g - 1:Nat):Int) from by omega,V1c]
 ·rw [V10 (by omega),if_neg (by decide),if_neg h2,ck,bs,V1c]
theorem V1o (n x y:Nat) (hn:n ≤ 100) (hx:x ≤ 100) (hy:y ≤ 100):Kar ((n:Int),(x:Int),(y:Int))=some ((V1k n x y:Nat):Int):=by
 have hxn:x * n ≤ 100 * 100:=Nat.mul_le_mul hx hn
 have e:wr (wr ((x:Int) * (n:Int)) + (y:Int))=((x * n + y:Nat):Int):=by
  rw [← Int.natCast_mul,Koq (x:=((x * n:Nat):Int)) (by omega) (by omega),Koq (by omega) (by omega)]; omega
 unfold Kar V1k
 simp only
 rw [e,Kos (n:=n) (by omega)]
 by_cases h0:x * n + y=0
 ·rw [if_pos (by rw [h0]; rfl),if_pos h0]; rfl
 rw [if_neg (by simp; omega),if_neg h0]
 by_cases h1:x * n + y=n + 1
 ·rw [if_pos (by rw [h1]; simp),if_pos h1]; rfl
 rw [if_neg (by simp; omega),if_neg h1]
 by_cases h2:x * n + y < n + 1
 ·rw [Kot h2,if_pos rfl,if_pos h2,Kos (by omega)]
 ·rw [Kou (by omega),if_neg (by decide),if_neg h2]
theorem V1p {m n g:Nat} (hm:2 ≤ m) (hn:2 ≤ n) (h:g < m * n):V1i n g < m:=by
 unfold V1i
 split
 ·omega
 split
 ·omega
 split
 ·refine Nat.div_lt_of_lt_mul ?_
  rw [Nat.mul_comm]; omega
 ·exact Nat.div_lt_of_lt_mul (by rw [Nat.mul_comm]; exact h)
theorem V1q {n g:Nat} (hn:2 ≤ n):V1j n g < n:=by
 unfold V1j
 split
 ·omega
 split
 ·exact Nat.mod_lt _ (by omega)
 ·exact Nat.mod_lt _ (by omega)
def V1r (a b:K00) (m n g h:Nat):Int:=((V1k n (pl a m (V1i n g) (V1i n h)) (pl b n (V1j n g) (V1j n h)):Nat):Int)
def V1s (a b:K00) (m n g h:Nat):Int:=((V1k n (ti a m (V1i n g) (V1i n h)) (ti b n (V1j n g) (V1j n h)):Nat):Int)
def V1t (a b:K00) (m n g h:Nat):Bool:=le a m (V1i n g) (V1i n h) && le b n (V1j n g) (V1j n h)
def V1u (a b:K00) (m n:Nat):K00:=⟨((m * n:Nat):Int),(List.range' 0 (m * n)).flatMap (fun g=>(List.range' 0 (m * n)).map (V1r a b m n g)),(List.range' 0 (m * n)).flatMap (fun g=>(List.range' 0 (m * n)).map (V1s a b m n g)),(List.range' 0 (m * n)).flatMap (fun g=>(List.range' 0 (m * n)).map (V1t a b m n g))⟩
theorem V1v {m n:Nat} (hm:2 ≤ m) (hn:2 ≤ n) (hmn:m * n ≤ 16):m ≤ 16∧n ≤ 16:=⟨Nat.le_trans (Nat.le_mul_of_pos_right m (by omega)) hmn,Nat.le_trans (Nat.le_mul_of_pos_left n (by omega)) hmn⟩
section
variable {a b:K00} {m n:Nat} (ta:Tab a m) (tb:Tab b n) (hm:2 ≤ m) (hn:2 ≤ n) (hmn:m * n ≤ 16)
include ta tb hm hn hmn
theorem V1w {g:Nat} (hg:g < m * n):∀ (k h:Nat) (P T:List Int) (B:List Bool),h + k=m * n→P.length + k ≤ 1000000→T.length + k ≤ 1000000→B.length + k ≤ 1000000 →
  Kav (a,b,(g:Int),P,T,B,(h:Int))=some (P ++ (List.range' h k).map (V1r a b m n g),T ++ (List.range' h k).map (V1s a b m n g),B ++ (List.range' h k).map (V1t a b m n g)):=by
 obtain ⟨hm16,hn16⟩:=V1v hm hn hmn
 have hN:wr (a.fSize * b.fSize)=((m * n:Nat):Int):=by
  rw [ta.size,tb.size,← Int.natCast_mul,Koq (by omega) (by omega)]
 intro k
 induction k with
 | zero =>
  intro h P T B hb _ _ _
  rw [Kav.eq_def]
  simp only
  rw [hN,Kou (by omega),if_neg (by decide)]
  simp
 | succ k ih =>
  intro h P T B hb h4 h5 h6
  have f1:=V1p hm hn hg
  have f2:=V1p hm hn (show h < m * n by omega)
  have s1:V1j n g < n:=V1q hn
  have s2:V1j n h < n:=V1q hn
  have p1:=Koy ta f1 f2
  have p2:=Koy tb s1 s2
  have t1:=Koz ta f1 f2
  have t2:=Koz tb s1 s2
  rw [Kav.eq_def]
  simp only
  rw [hN,Kot (by omega),if_pos rfl,tb.size,V1m n g (by omega) (by omega) (by omega),bs,V1n n g (by omega) (by omega) (by omega),bs,V1m n h (by omega) (by omega) (by omega),bs,V1n n h (by omega) (by omega) (by omega),bs,
   Kp3 ta f1 f2,bs,Kp3 tb s1 s2,bs,V1o n _ _ (by omega) (by omega) (by omega),bs,Kry (by simp; omega),bs,Kp4 ta f1 f2,bs,Kp4 tb s1 s2,bs,V1o n _ _ (by omega) (by omega) (by omega),bs,Kry (by simp; omega),bs,sLe ta f1 f2,bs,sLe tb s1 s2,bs]
  have f:∀ x:Bool,Qe5 (B.length + [x].length) 1=some ():=fun x=>Kry (by simp; omega)
  have e3:((if le a m (V1i n g) (V1i n h)=true then Qe5 (B.length + [le b n (V1j n g) (V1j n h)].length) 1 >>= fun _=>some (B ++ [le b n (V1j n g) (V1j n h)]) else Qe5 (B.length + [false].length) 1 >>= fun _=>some (B ++ [false])):Option (List Bool))=some (B ++ [V1t a b m n g h]):=by
   rw [f,f,bs,bs]
   unfold V1t
   cases le a m (V1i n g) (V1i n h) <;> rfl
  rw [e3,bs,Kos (by omega),ih (h + 1) _ _ _ (by omega) (by simp; omega) (by simp; omega) (by simp; omega)]
  simp [List.range'_succ,V1r,V1s]
theorem V1x:∀ (k g:Nat) (P T:List Int) (B:List Bool),g + k=m * n→P.length + k * 16 ≤ 10000→T.length + k * 16 ≤ 10000→B.length + k * 16 ≤ 10000 →
  Kaz (a,b,P,T,B,(g:Int))=some (P ++ (List.range' g k).flatMap (fun g=>(List.range' 0 (m * n)).map (V1r a b m n g)),T ++ (List.range' g k).flatMap (fun g=>(List.range' 0 (m * n)).map (V1s a b m n g)),B ++ (List.range' g k).flatMap (fun g=>(List.range' 0 (m * n)).map (V1t a b m n g))):=by
 have hN:wr (a.fSize * b.fSize)=((m * n:Nat):Int):=by
  rw [ta.size,tb.size,← Int.natCast_mul,Koq (by omega) (by omega)]
 intro k
 induction k with
 | zero =>
  intro g P T B hb _ _ _
  rw [Kaz.eq_def]
  simp only
  rw [hN,Kou (by omega),if_neg (by decide)]
  simp
 | succ k ih =>
  intro g P T B hb h1 h2 h3
  rw [Kaz.eq_def]
  simp only
  rw [hN,Kot (by omega),if_pos rfl,show (0:Int)=((0:Nat):Int) from rfl,V1w ta tb hm hn hmn (by omega) (m * n) 0 P T B (by omega) (by omega) (by omega) (by omega),bs]
  simp only
  rw [Kos (by omega),ih (g + 1) _ _ _ (by omega) (by simp; omega) (by simp; omega) (by simp; omega)]
  simp [List.range'_succ,List.flatMap_cons]
theorem V1y (sa:Ksc a=true) (sb:Ksc b=true):Kb2 (a,b)=some (V1u a b m n,true):=by
 have hN:wr (a.fSize * b.fSize)=((m * n:Nat):Int):=by
  rw [ta.size,tb.size,← Int.natCast_mul,Koq (by omega) (by omega)]
 unfold Kb2 Kai
 simp only
 rw [Kse,Kse,bs,sa,if_pos rfl,bs,sb,if_pos rfl,bs,hN,decide_eq_true (by omega),bs,if_pos rfl,show (0:Int)=((0:Nat):Int) from rfl,V1x ta tb hm hn hmn (m * n) 0 [] [] [] (by omega) (by simp; omega) (by simp; omega) (by simp; omega),bs]
 rfl
end
def V1z:K00:=⟨3,[0,1,2,1,2,2,2,2,2],[0,0,0,0,1,2,0,2,2],[true,true,true,false,true,true,false,false,true]⟩
def V20:K00:=⟨4,[0,1,2,3,1,2,3,3,2,3,3,3,3,3,3,3],[0,0,0,0,0,1,2,3,0,2,3,3,0,3,3,3],[true,true,true,true,false,true,true,true,false,false,true,true,false,false,false,true]⟩
def V21:K00:=⟨5,[0,1,2,3,4,1,2,3,4,4,2,3,4,4,4,3,4,4,4,4,4,4,4,4,4],[0,0,0,0,0,0,1,2,3,4,0,2,4,4,4,0,3,4,4,4,0,4,4,4,4],[true,true,true,true,true,false,true,true,true,true,false,false,true,true,true,false,false,false,true,true,false,false,false,false,true]⟩
def V22:K00:=⟨3,[0,1,2,1,2,2,2,2,2],[0,0,0,0,1,2,0,2,2],[true,false,true,false,true,true,false,false,true]⟩
def V23:K00:=⟨4,[0,1,2,3,1,2,3,3,2,3,3,3,3,3,3,3],[0,0,0,0,0,1,2,3,0,2,3,3,0,3,3,3],[true,false,false,true,false,true,false,true,false,false,true,true,false,false,false,true]⟩
def V24:K00:=⟨5,[0,1,2,3,4,1,2,3,4,4,2,3,4,4,4,3,4,4,4,4,4,4,4,4,4],[0,0,0,0,0,0,1,2,3,4,0,2,4,4,4,0,3,4,4,4,0,4,4,4,4],[true,false,false,false,true,false,true,false,false,true,false,false,true,false,true,false,false,false,true,true,false,false,false,false,true]⟩
def V25:K00:=⟨2,[0,1,1,1],[0,0,0,1],[true,true,false,true]⟩
def V26:K00:=⟨3,[0,1,2,1,1,1,2,1,2],[0,0,0,0,1,2,0,2,2],[true,true,true,false,true,false,false,true,true]⟩
def V27:K00:=⟨4,[0,1,2,3,1,1,1,1,2,1,2,2,3,1,2,3],[0,0,0,0,0,1,2,3,0,2,2,3,0,3,3,3],[true,true,true,true,false,true,false,false,false,true,true,false,false,true,true,true]⟩
def V28:K00:=⟨6,[0,1,2,3,4,5,1,5,1,5,5,5,2,1,2,1,5,5,3,5,1,4,4,5,4,5,5,4,4,5,5,5,5,5,5,5],[0,0,0,0,0,0,0,1,2,3,4,5,0,2,2,0,0,2,0,3,0,3,4,4,0,4,0,4,4,4,0,5,2,4,4,5],[true,false,true,false,true,true,false,true,false,false,false,true,false,false,true,false,false,true,false,true,false,true,true,true,false,false,false,false,true,true,false,false,false,false,false,true]⟩
def V29:K00:=⟨9,[0,1,2,3,4,5,6,7,8,1,7,1,1,7,7,7,7,7,2,1,2,2,1,1,7,7,7,3,1,2,3,5,5,8,7,8,4,7,1,5,6,8,6,7,8,5,7,1,5,8,8,8,7,8,6,7,7,8,6,8,6,7,8,7,7,7,7,7,7,7,7,7,8,7,7,8,8,8,8,7,8],[0,0,0,0,0,0,0,0,0,0,1,2,3,4,5,6,7,8,0,2,2,3,0,3,0,2,3,0,3,3,3,0,3,0,3,3,0,4,0,0,4,4,6,6,6,0,5,3,3,4,5,6,8,8,0,6,0,0,6,6,6,6,6,0,7,2,3,6,8,6,7,8,0,8,3,3,6,8,6,8,8],[true,false,true,true,false,false,true,true,true,false,true,false,false,false,false,false,true,false,false,false,true,false,false,false,false,true,false,false,false,true,true,false,false,false,true,true,false,true,false,false,true,true,true,true,true,false,true,false,false,false,true,false,true,true,false,false,false,false,false,false,true,true,true,false,false,false,false,false,false,false,true,false,false,false,false,false,false,false,false,true,true]⟩
theorem V2a:V0y 1 true=V1z:=by kernel_rfl
theorem V2b:Ksc V1z=true:=by kernel_rfl
theorem V2c:V0y 2 true=V20:=by kernel_rfl
theorem V2d:Ksc V20=true:=by kernel_rfl
theorem V2e:V0y 3 true=V21:=by kernel_rfl
theorem V2f:Ksc V21=true:=by kernel_rfl
theorem V2g:V0y 1 false=V22:=by kernel_rfl
theorem V2h:Ksc V22=true:=by kernel_rfl
theorem V2i:V0y 2 false=V23:=by kernel_rfl
theorem V2j:Ksc V23=true:=by kernel_rfl
theorem V2k:V0y 3 false=V24:=by kernel_rfl
theorem V2l:Ksc V24=true:=by kernel_rfl
theorem V2m:V1a 1=V25:=by kernel_rfl
theorem V2n:Ksc V25=true:=by kernel_rfl
theorem V2o:V1a 2=V26:=by kernel_rfl
theorem V2p:Ksc V26=true:=by kernel_rfl
theorem V2q:V1a 3=V27:=by kernel_rfl
theorem V2r:Ksc V27=true:=by kernel_rfl
theorem V2s:V1u V22 V25 3 2=V28:=by kernel_rfl
theorem V2t:Ksc V28=true:=by kernel_rfl
theorem V2u:V1u V22 V26 3 3=V29:=by kernel_rfl
theorem V2v:Ksc V29=true:=by kernel_rfl
def V2w:List K00:=[V1z,V20,V21,V22,V23,V24,V25,V26,V27,V28,V29]
theorem V2x {s:K00} (h:s ∈ V2w):Ksc s=true∧(2 ≤ s.fSize∧s.fSize ≤ 9)∧sms s ≤ 300:=by
 simp only [V2w,List.mem_cons,List.not_mem_nil,or_false] at h
 rcases h with rfl | rfl | rfl | rfl | rfl | rfl | rfl | rfl | rfl | rfl | rfl
 ·exact ⟨V2b,by decide,by decide⟩
 ·exact ⟨V2d,by decide,by decide⟩
 ·exact ⟨V2f,by decide,by decide⟩
 ·exact ⟨V2h,by decide,by decide⟩
 ·exact ⟨V2j,by decide,by decide⟩
 ·exact ⟨V2l,by decide,by decide⟩
 ·exact ⟨V2n,by decide,by decide⟩
 ·exact ⟨V2p,by decide,by decide⟩
 ·exact ⟨V2r,by decide,by decide⟩
 ·exact ⟨V2t,by decide,by decide⟩
 ·exact ⟨V2v,by decide,by decide⟩
theorem V2y (x:Int) (h:V0q 3 x):x=0∨x=1∨x=2:=by
 have:=h.1 (by decide)
 omega
theorem V2z {x:Int} (h:V0q 3 x):Gv (K8d (wr (1 + x))) (fun s=>s ∈ V2w):=by
 rcases V2y x h with rfl | rfl | rfl
 ·exact .eq (V15 1 (by decide) (by decide)) (by rw [V2a]; simp [V2w])
 ·exact .eq (V15 2 (by decide) (by decide)) (by rw [V2c]; simp [V2w])
 ·exact .eq (V15 3 (by decide) (by decide)) (by rw [V2e]; simp [V2w])
theorem V30 {x:Int} (h:V0q 3 x):Gv (K8g (wr (1 + x))) (fun s=>s ∈ V2w):=by
 rcases V2y x h with rfl | rfl | rfl
 ·exact .eq (V14 1 (by decide) (by decide)) (by rw [V2g]; simp [V2w])
 ·exact .eq (V14 2 (by decide) (by decide)) (by rw [V2i]; simp [V2w])
 ·exact .eq (V14 3 (by decide) (by decide)) (by rw [V2k]; simp [V2w])
theorem V31 {x:Int} (h:V0q 3 x):Gv (K8u (wr (1 + x))) (fun s=>s ∈ V2w):=by
 rcases V2y x h with rfl | rfl | rfl
 ·exact .eq (V1h 1 (by decide) (by decide)) (by rw [V2m]; simp [V2w])
 ·exact .eq (V1h 2 (by decide) (by decide)) (by rw [V2o]; simp [V2w])
 ·exact .eq (V1h 3 (by decide) (by decide)) (by rw [V2q]; simp [V2w])
theorem V32 {c:K02} (h:V0k c):Gv (Kb5 c) (fun r=>r.1 ∈ V2w∧V0k r.2):=by
 unfold Kb5
 refine Gv.bind (V0r h 3) ?_
 rintro ⟨x,c1⟩ ⟨hx,h1⟩
 simp only at hx h1 ⊢
 refine Gv.bind (V2z hx) (fun s0 hs0=>?_)
 refine Gv.bind (V0r h1 8) ?_
 rintro ⟨y,c2⟩ ⟨hy,h2⟩
 simp only at hy h2 ⊢
 have fin:∀ (R:Int × List Int × List Int × List Bool × List Int × Int × Int→Prop),True:=fun _=>trivial
 refine Gv.bind (Q:=fun _=>True) (.ite (fun _=>.of trivial) (fun _=>Gv.bind (Q:=fun _=>True) (.ite (fun _=>.of trivial) (fun _=>.of trivial)) (fun _ _=>.of trivial))) (fun j5 _=>?_)
 refine Gv.bind (Q:=fun r:Int × List Int × List Int × List Bool × List Int × Int × Int=>(⟨r.1,r.2.1,r.2.2.1,r.2.2.2.1⟩:K00) ∈ V2w∧V0k ⟨r.2.2.2.2.1,r.2.2.2.2.2.1,r.2.2.2.2.2.2⟩) (.ite (fun _=>?_) (fun _=>?_)) ?_
 ·exact Gv.bind (V30 hx) (fun s hs=>.of ⟨hs,h2⟩)
 ·refine Gv.bind (Q:=fun _=>True) (.ite (fun _=>.of trivial) (fun _=>.of trivial)) (fun j9 _=>?_)
  refine Gv.bind (Q:=fun r:Int × List Int × List Int × List Bool × List Int × Int × Int=>(⟨r.1,r.2.1,r.2.2.1,r.2.2.2.1⟩:K00) ∈ V2w∧V0k ⟨r.2.2.2.2.1,r.2.2.2.2.2.1,r.2.2.2.2.2.2⟩) (.ite (fun _=>?_) (fun _=>?_)) (by rintro ⟨a,b,d,e,f,g,i⟩ q; exact .of q)
  ·exact Gv.bind (V31 hx) (fun s hs=>.of ⟨hs,h2⟩)
  ·refine Gv.bind (Q:=fun r:Int × List Int × List Int × List Bool × List Int × Int × Int=>(⟨r.1,r.2.1,r.2.2.1,r.2.2.2.1⟩:K00) ∈ V2w∧V0k ⟨r.2.2.2.2.1,r.2.2.2.2.2.1,r.2.2.2.2.2.2⟩) (.ite (fun _=>?_) (fun _=>.of ⟨hs0,h2⟩)) (by rintro ⟨a,b,d,e,f,g,i⟩ q; exact .of q)
   rw [show (1:Int)=((1:Nat):Int) from rfl,V14 1 (by decide) (by decide),V2g,bs]
   refine Gv.bind (V0r h2 2) ?_
   rintro ⟨z,c3⟩ ⟨hz,h3⟩
   simp only at hz h3 ⊢
   have hz:=hz.1 (by decide)
   have t3:Tab V22 3:=Ksd V2h
   rcases (show z=0∨z=1 by omega) with rfl | rfl
   ·have e:wr (((1:Nat):Int) + 0)=((1:Nat):Int):=rfl
    rw [e,V1h 1 (by decide) (by decide),V2m,bs,V1y (m:=3) (n:=2) t3 (Ksd V2n) (by decide) (by decide) (by decide) V2h V2n,V2s,bs]
    exact .of ⟨by simp [V2w],h3⟩
   ·have e:wr (((1:Nat):Int) + 1)=((2:Nat):Int):=rfl
    rw [e,V1h 2 (by decide) (by decide),V2o,bs,V1y (m:=3) (n:=3) t3 (Ksd V2p) (by decide) (by decide) (by decide) V2h V2p,V2u,bs]
    exact .of ⟨by simp [V2w],h3⟩
 ·rintro ⟨a,b,d,e,f,g,i⟩ q
  exact .of q
theorem V33 (c:Int) (a:List Int) (h:a.length ≤ 1000000):Kbc (c,[a])=some (c :: a):=by
 rw [Kxf c [a] (by simp) (by simp; omega)]; simp
theorem V34 (c:Int) (a b:List Int) (h:a.length + b.length ≤ 1000000):Kbc (c,[a,b])=some (c :: (a ++ b)):=by
 rw [Kxf c [a,b] (by simp) (by simp; omega)]; simp
theorem V35 (d:Nat) (hd:d ≤ 10):2 ^ d ≤ 1024:=Nat.le_trans (Nat.pow_le_pow_right (by decide) hd) (by decide)
structure V36 (s:K00) (ctx:List (List Int)) (t:K01) (y:Knk):Prop where
 ok:tOk (gN s.fSize true) (yN s.fSize true) ctx.length t=true
 cx:∀ q ∈ ctx,TyS s q
 bd:ctx.length + 2 * tsz t ≤ 1000000
 im:Koo (⟨s⟩,ctx,t)=some y
 fa:y.ffault=0
section
variable {s:K00} {n:Nat} (hs:Kwf s n) {ctx:List (List Int)} {t:K01} {y:Knk}
include hs
theorem V36.tell (g:V36 s ctx t y):∃ x,Kzb s n ctx t x y∧x.ffault=0∧x.fty=y.fty∧TyS s y.fty:=by
 obtain ⟨x,y',r⟩:=V0j hs (tsz t) t ctx (Nat.le_refl _) g.ok g.cx g.bd
 have e:=r.im
 rw [g.im] at e
 cases e
 have hf:x.ffault=0:=by rw [← r.fa]; exact g.fa
 exact ⟨x,r,hf,r.ty.symm,by rw [r.ty]; exact (r.gd hf).1⟩
theorem V36.kid (g:V36 s ctx t y) {i:Nat} {k:K01} (hk:t.fKids[i]?=some k):∃ yk,y.fkids[i]?=some yk∧V36 s (Kz9 t i y.fkids ++ ctx) k yk∧(Kz9 t i y.fkids).length=Krb t.fOp i:=by
 obtain ⟨x,r,hf,_⟩:=g.tell hs
 obtain ⟨yk,h1,h2⟩:=(r.kd hf).2 i k hk
 obtain ⟨hi,hg⟩:=List.getElem?_eq_some_iff.1 hk
 have hm:k ∈ t.fKids:=hg ▸ List.getElem_mem hi
 have h3:=Ku3 t.fKids t.fOp ctx.length 0 i hi (Krw g.ok).2
 rw [hg,Nat.zero_add] at h3
 have h4:=Ktp hm
 have h5:=Krc t.fOp (i:Int)
 have h6:=g.bd
 have h7:=h2.ln
 refine ⟨yk,h1,⟨?_,?_,?_,h2.im,h2.fa⟩,h7⟩
 ·rw [List.length_append,h7,Nat.add_comm]; exact h3
 ·intro q hq
  rcases List.mem_append.1 hq with hq | hq
  ·exact h2.ty q hq
  ·exact g.cx q hq
 ·rw [List.length_append,h7]; omega
theorem V36.first (g:V36 s ctx t y) (h0:0 < t.fKids.length) (ha:Krb t.fOp ((0:Nat):Int)=0):∃ k0 y0 x0 l,t.fKids[0]?=some k0∧y.fkids=y0 :: l∧(Kzb s n ctx k0 x0 y0∧x0.ffault=0)∧Knu (s,ctx,k0)=some x0∧x0.fty=y0.fty∧TyS s y0.fty:=by
 have hk:t.fKids[0]?=some t.fKids[0]:=List.getElem?_eq_getElem h0
 obtain ⟨y0,h1,h2,h3⟩:=g.kid hs hk
 rw [ha] at h3
 rw [List.eq_nil_of_length_eq_zero h3,List.nil_append] at h2
 obtain ⟨x0,r,hf,h4,h5⟩:=h2.tell hs
 cases e:y.fkids with
 | nil=>rw [e] at h1; cases h1
 | cons z l =>
  rw [e] at h1
  cases h1
  exact ⟨_,_,x0,l,hk,rfl,⟨r,hf⟩,r.sp,h4,h5⟩
end
def V37 (s:K00) (m b:Nat) (t:K01):Prop:=tOk (gN s.fSize true) (yN s.fSize true) m t=true∧tsz t ≤ b
section
variable {s:K00} {n:Nat} (hs:Kwf s n)
include hs
theorem V38 {g:Nat} (h:g < n):Kq0 (19 + (g:Int))=1∧Kqm s.fSize true (19 + (g:Int))=true:=by
 have:=hs.tab.hi
 refine ⟨by rcases Kq4 (19 + (g:Int)) with q | q | q | q <;> omega,(Kxw hs (by omega)).2 (by omega)⟩
end
theorem sOp (op N:Int) (ks:List K01):Kbi (op,N,ks)=some ⟨op,N,[],ks⟩:=rfl
mutual
theorem V39 {g g':Int→Bool} {y y':List Int→Bool} (hg:∀ x,g x=true→g' x=true) (hy:∀ q,y q=true→y' q=true):∀ (t:K01) (n:Nat),tOk g y n t=true→tOk g' y' n t=true
 | ⟨op,N,ty,ks⟩,n,h=>by
  rw [Kv5,Bool.and_eq_true] at h ⊢
  refine ⟨?_,V3a hg hy ks op n 0 h.2⟩
  have h1:=h.1
  unfold Krh Krf Krg at h1 ⊢
  simp only [Bool.and_eq_true] at h1 ⊢
  refine ⟨⟨h1.1.1,?_⟩,?_⟩
  ·have h2:=h1.1.2
   split at h2
   ·rename_i q; rw [if_pos q]; exact h2
   ·rename_i q
    rw [if_neg q]
    split at h2
    ·rename_i q2; rw [if_pos q2]; exact h2
    ·rename_i q2
     rw [if_neg q2]
     split at h2
     ·rename_i q3; rw [if_pos q3]; exact hg _ h2
     ·rename_i q3; rw [if_neg q3]; exact h2
  ·have h2:=h1.2
   split at h2
   ·rename_i q; rw [if_pos q]; exact hy _ h2
   ·rename_i q; rw [if_neg q]; exact h2
theorem V3a {g g':Int→Bool} {y y':List Int→Bool} (hg:∀ x,g x=true→g' x=true) (hy:∀ q,y q=true→y' q=true):∀ (ks:List K01) (op:Int) (n i:Nat),Kri g y op n i ks=true→Kri g' y' op n i ks=true
 | [],op,n,i,_=>by rw [Kri]
 | k :: ks,op,n,i,h=>by
  rw [Kv6,Bool.and_eq_true] at h ⊢
  exact ⟨V39 hg hy k _ h.1,V3a hg hy ks op n (i + 1) h.2⟩
end
theorem V37.tms {s:K00} {m b:Nat} {t:K01} (h:V37 s m b t):tms t ≤ 43 * b:=by
 have h1:=V39 (g':=gN s.fSize true) (y':=wtB) (fun _ h=>h) (fun q hq=>by unfold yN at hq; rw [Bool.and_eq_true] at hq; exact hq.1) t m h.1
 have:=(Kvk t m h1).1
 have:=h.2
 omega
section
variable {s:K00} {n:Nat} (hs:Kwf s n)
include hs
theorem le_refl {a:Nat} (ha:a < n):le s n a a=true:=by
 have:=hs.one a ha
 simp only [Kp9,Bool.and_eq_true] at this
 exact this.2
end
theorem le_trans {s:K00} (h:Ksc s=true) {a b c:Nat} (ha:a < s.fSize.toNat) (hb:b < s.fSize.toNat) (hc:c < s.fSize.toNat) (h1:le s s.fSize.toNat a b=true) (h2:le s s.fSize.toNat b c=true):le s s.fSize.toNat a c=true:=by
 unfold Ksc at h
 simp only [Bool.and_eq_true] at h
 have hm:=h.2
 unfold Kpp at hm
 rw [List.all_eq_true] at hm
 have q:=hm a (by rw [List.mem_range'_1]; omega)
 simp only [Bool.and_eq_true,List.all_eq_true] at q
 have q2:=(q.2 b (by rw [List.mem_range'_1]; omega)).2 c (by rw [List.mem_range'_1]; omega)
 unfold Kpa at q2
 simp [h1,h2] at q2
 exact q2.2.1.1.1
theorem V3b {s:K00}:∀ (k i n:Nat) (c:K02) (out:List Int),i + k=n→n ≤ 1000→V0k c→out.length=i→Gv (Keg (s,(n:Int),c.fb,c.fi,c.fh,out,(i:Int))) (fun r=>r.1.length=n∧V0k ⟨r.2.1,r.2.2.1,r.2.2.2⟩):=by
 intro k
 induction k with
 | zero =>
  intro i n c out hi _ h ho
  rw [Keg.eq_def]
  simp only
  rw [Kou (by omega),if_neg (by decide)]
  exact .of ⟨by simp only; omega,h⟩
 | succ k ih =>
  intro i n c out hi hn h ho
  rw [Keg.eq_def]
  simp only
  rw [Kot (by omega),if_pos rfl]
  have G:Gv (Kec (c,s)) (fun r=>V0k r.2):=by
   unfold Kec
   simp only
   refine Gv.bind (V0s h 30) ?_
   rintro ⟨x,c1⟩ h1
   simp only at h1 ⊢
   refine .ite (fun _=>?_) (fun _=>?_)
   ·refine Gv.bind (V0u h1) ?_
    rintro ⟨y,c2⟩ ⟨_,h2⟩
    exact .of h2
   ·refine Gv.bind (V0r h1 _) ?_
    rintro ⟨y,c2⟩ ⟨_,h2⟩
    exact .of h2
  refine Gv.bind G ?_
  rintro ⟨x,c1⟩ h1
  simp only at h1 ⊢
  rw [Kry (by simp; omega),bs,Kos (by omega)]
  exact ih (i + 1) n c1 _ (by omega) hn h1 (by simp [ho])
theorem V3c {s:K00} {c:K02} (h:V0k c) (n:Nat) (hn:n ≤ 1000):Gv (Kej (c,s,(n:Int))) (fun r=>r.1.length=n∧V0k r.2):=by
 unfold Kej
 simp only
 refine Gv.bind (V3b n 0 n c [] (by omega) hn h rfl) ?_
 rintro ⟨a,b,d,e⟩ ⟨q1,q2⟩
 exact .of ⟨q1,q2⟩
mutual
theorem V3d (g:Int→Bool) (y:List Int→Bool) (hg:∀ x,g x=true→-9223372036854775808 ≤ x∧x ≤ 9223372036854775807):∀ (t:K01) (n:Nat),tOk g y n t=true→n + 2 * tms t ≤ 9223372036854775807→tln t
 | ⟨op,N,ty,ks⟩,n,h,hb=>by
  rw [Kv5,Bool.and_eq_true] at h
  rw [tms] at hb
  rw [tln]
  refine ⟨by omega,by omega,V3e g y hg ks op n 0 h.2 (by omega),?_⟩
  have h1:=h.1
  unfold Krh Krf at h1
  simp only [Bool.and_eq_true] at h1
  have h2:=h1.1.2
  split at h2
  ·simp only [inB,Bool.and_eq_true,decide_eq_true_eq] at h2; omega
  ·split at h2
   ·simp only [inB,Bool.and_eq_true,decide_eq_true_eq] at h2; omega
   ·split at h2
    ·exact hg N h2
    ·have:=eq_of_beq h2; omega
theorem V3e (g:Int→Bool) (y:List Int→Bool) (hg:∀ x,g x=true→-9223372036854775808 ≤ x∧x ≤ 9223372036854775807):∀ (ks:List K01) (op:Int) (n i:Nat),Kri g y op n i ks=true→n + 2 * (ks.length + Kqs ks) ≤ 9223372036854775807→Krs ks
 | [],op,n,i,_,_=>by rw [Krs]; trivial
 | ⟨o,N,ty,ks1⟩ :: ks,op,n,i,h,hb=>by
  rw [Kv6,Bool.and_eq_true] at h
  rw [Kqs,List.length_cons] at hb
  have:=Krc op i
  rw [Krs]
  exact ⟨V3d g y hg _ _ h.1 (by omega),V3e g y hg ks op n (i + 1) h.2 (by omega)⟩
end
theorem V3f {s:K00} {n:Nat} (hs:Kwf s n) {m b:Nat} {t:K01} (h:V37 s m b t) (hb:b ≤ 100000) (hm:m ≤ 1000):tln t:=by
 have h3:=h.tms
 have h4:=hs.tab.size
 have h5:=hs.tab.hi
 refine V3d _ _ ?_ t m h.1 (by omega)
 intro x hx
 unfold gN at hx
 simp at hx
 omega
theorem V3g (s:K00) {n:Nat} (hn:s.fSize=(n:Int)) (h16:n ≤ 16) (v:List Bool) (hv:v.length=n):∀ (k i:Nat) (l:List Int),i + k=n→l.length ≤ i→Gv (Kdh (s,v,l,(i:Int))) (fun r=>r.length ≤ n):=by
 intro k
 induction k with
 | zero =>
  intro i l hi hl
  rw [Kdh.eq_def]
  simp only
  rw [hn,Kou (by omega),if_neg (by decide)]
  exact .of (by omega)
 | succ k ih =>
  intro i l hi hl
  rw [Kdh.eq_def]
  simp only
  rw [hn,Kot (by omega),if_pos rfl,Kor (by omega),bs]
  refine Gv.bind (Q:=fun r:List Int=>r.length ≤ i + 1) (.ite (fun _=>?_) (fun _=>.of (by omega))) (fun r hr=>?_)
  ·rw [Kry (by simp; omega),bs]
   exact .of (by simp; omega)
  ·rw [Kos (by omega)]
   exact ih (i + 1) r (by omega) hr
theorem V3h (a b:List Int) (hl:a.length ≤ 1000):∀ (k i:Nat),i + k=a.length→∃ r,Kds (a,b,(i:Int))=some r:=by
 intro k
 induction k with
 | zero =>
  intro i hi
  rw [Kds.eq_def]
  simp only
  rw [Kou (by omega),if_neg (by decide),bs,if_neg (by decide)]
  exact ⟨_,rfl⟩
 | succ k ih =>
  intro i hi
  rw [Kds.eq_def]
  simp only
  rw [Kot (by omega),if_pos rfl,bs]
  by_cases hb:i < b.length
  ·rw [Kot hb,if_pos rfl,Kor (by omega),bs,Kor hb,bs]
   cases hq:(a[i]'(by omega) != b[i])
   ·rw [if_neg (by decide),Kos (by omega)]
    exact ih (i + 1) (by omega)
   ·rw [if_pos rfl,bs,bs]
    exact ⟨_,rfl⟩
  ·rw [Kou (by omega),if_neg (by decide)]
   exact ⟨_,rfl⟩
theorem V3i (a b:List Int) (hl:a.length ≤ 1000):∃ r,Kdv (a,b)=some r:=by
 obtain ⟨r,h⟩:=V3h a b hl a.length 0 (by omega)
 unfold Kdv
 simp only
 rw [show (0:Int)=((0:Nat):Int) from rfl,h,bs]
 cases r <;> exact ⟨_,rfl⟩
theorem V3j (R out:List (List Int)) (i:Nat) (hi:i < R.length) (hR:∀ q ∈ R,q.length ≤ 1000):∀ (k:Nat),k ≤ out.length→out.length ≤ 1000000→Gv (Kdz (R,out,(i:Int),(k:Int))) (fun r=>∃ m:Nat,r=(m:Int)∧m ≤ out.length):=by
 intro k
 induction k with
 | zero =>
  intro hk _
  rw [Kdz.eq_def]
  simp only
  rw [decide_eq_false (by omega),if_neg (by decide),bs,if_neg (by decide)]
  exact .of ⟨0,rfl,by omega⟩
 | succ k ih =>
  intro hk ho
  rw [Kdz.eq_def]
  simp only
  rw [decide_eq_true (by omega),if_pos rfl,Kor hi,bs,Koq (x:=((k + 1:Nat):Int) - 1) (by omega) (by omega),show ((k + 1:Nat):Int) - 1=(k:Int) by omega,Kor (by omega),bs]
  obtain ⟨r,h⟩:=V3i R[i] (out[k]'(by omega)) (hR _ (List.getElem_mem hi))
  rw [h,bs,bs]
  exact .ite (fun _=>ih (by omega) ho) (fun _=>.of ⟨k + 1,rfl,hk⟩)
theorem V3k (R:List (List Int)) {b:Nat} (hb:b ≤ 1000) (hR:∀ q ∈ R,q.length ≤ b) (hl:R.length ≤ 1000000):∀ (k i:Nat) (out:List (List Int)),i + k=R.length→out.length=i→(∀ q ∈ out,q.length ≤ b)→Gv (Ke3 (R,out,(i:Int))) (fun r=>∀ q ∈ r,q.length ≤ b):=by
 intro k
 induction k with
 | zero =>
  intro i out hi ho hq
  rw [Ke3.eq_def]
  simp only
  rw [Kou (by omega),if_neg (by decide)]
  exact .of hq
 | succ k ih =>
  intro i out hi ho hq
  rw [Ke3.eq_def]
  simp only
  rw [Kot (by omega),if_pos rfl]
  refine Gv.bind (V3j R out i (by omega) (fun q h=>Nat.le_trans (hR q h) hb) out.length (Nat.le_refl _) (by omega)) ?_
  rintro x ⟨m,rfl,hm⟩
  have hlen:(out ++ ([[]]:List (List Int))).length=out.length + 1:=by simp
  have c1:chk (0 < (out ++ ([[]]:List (List Int))).length∧0 ≤ (wr ((m:Int) + 1))∧(wr ((m:Int) + 1)) ≤ ((out ++ ([[]]:List (List Int))).length:Int))=some ():=by
   unfold chk
   rw [if_pos]
   rw [Koq (by omega) (by omega),hlen]; omega
  have c2:chk (0 < (out ++ ([[]]:List (List Int))).length∧0 ≤ (m:Int)∧(m:Int) ≤ ((out ++ ([[]]:List (List Int))).length:Int))=some ():=by
   unfold chk
   rw [if_pos]
   rw [hlen]; omega
  rw [Kry (by simp; omega),bs,c1,bs,c2,bs,Kor (by omega),bs,Koq (x:=(m:Int) + 1) (by omega) (by omega),Int.toNat_natCast,show Int.toNat ((m:Int) + 1)=m + 1 by omega]
  have hcl:=Qap (out ++ ([[]]:List (List Int))) (m + 1) m (by omega) (by omega)
  rw [Kor (by omega),bs,Kos (by omega)]
  refine ih (i + 1) _ (by omega) (by rw [List.length_set]; omega) (fun q h=>?_)
  rcases List.mem_or_eq_of_mem_set h with h | rfl
  ·have:q ∈ out ++ ([[]]:List (List Int)):=by
    unfold cpy at h
    rcases List.mem_append.1 h with h | h
    ·exact List.mem_of_mem_take h
    ·rcases List.mem_append.1 h with h | h
     ·exact List.mem_of_mem_drop (List.mem_of_mem_take h)
     ·exact List.mem_of_mem_drop h
   rcases List.mem_append.1 this with h | h
   ·exact hq q h
   ·rw [List.mem_singleton.1 h]; simp
  ·exact hR _ (List.getElem_mem _)
theorem V3l (s:K00) {n:Nat} (hn:s.fSize=(n:Int)) (h16:n ≤ 10) (hview:∀ v:List Bool,v.length=n→∃ b,Kdc (s,v)=some b):∀ (k g:Nat) (v:List Bool),g + k=n→v.length=n→Gv (Kdk (s,v,(g:Int))) (fun r=>r.length ≤ 2 ^ k∧∀ q ∈ r,q.length ≤ n):=by
 intro k
 induction k with
 | zero =>
  intro g v hg hv
  rw [Kdk.eq_def]
  simp only
  obtain ⟨b,hb⟩:=hview v hv
  rw [hn,show ((g:Int) == (n:Int))=true by rw [show g=n by omega]; exact beq_self_eq_true _,if_pos rfl,hb,bs]
  refine .ite (fun _=>?_) (fun _=>.of ⟨by simp,fun q h=>by cases h⟩)
  refine Gv.bind (V3g s hn (by omega) v hv n 0 [] (by omega) (by simp)) (fun l hl=>?_)
  exact .of ⟨by simp,fun q h=>by rw [List.mem_singleton.1 h]; exact hl⟩
 | succ k ih =>
  intro g v hg hv
  rw [Kdk.eq_def]
  simp only
  have hp:2 ^ k ≤ 1024:=by
   have:2 ^ k ≤ 2 ^ 10:=Nat.pow_le_pow_right (by decide) (by omega)
   simpa using this
  rw [hn,show ((g:Int) == (n:Int))=false by rw [beq_eq_false_iff_ne]; omega,if_neg (by decide),Kdl.eq_def]
  simp only
  rw [decide_eq_true (by decide:(0:Int) < 2),if_pos rfl,Kry (by simp; omega),bs,Kor (by omega),bs,Kos (by omega),Int.toNat_natCast]
  refine Gv.bind (Q:=fun r:List (List Int)=>r.length ≤ 2 ^ (k + 1)∧∀ q ∈ r,q.length ≤ n) ?_ (fun r hr=>.of hr)
  refine Gv.bind (ih (g + 1) _ (by omega) (by rw [List.length_set]; exact hv)) ?_
  rintro r0 ⟨a0,b0⟩
  rw [Kry (by simp; omega),bs,List.nil_append,show wr ((0:Int) + 1)=1 from rfl,Kdl.eq_def]
  simp only
  rw [decide_eq_true (by decide:(1:Int) < 2),if_pos rfl,Kry (by simp; omega),bs,Kor (by omega),bs,Kos (by omega),Int.toNat_natCast]
  refine Gv.bind (ih (g + 1) _ (by omega) (by rw [List.length_set]; exact hv)) ?_
  rintro r1 ⟨a1,b1⟩
  rw [Kry (by omega),bs,show wr ((1:Int) + 1)=2 from rfl,Kdl.eq_def]
  simp only
  rw [decide_eq_false (by decide:¬ (2:Int) < 2),if_neg (by decide)]
  refine .of ⟨by rw [List.length_append,Nat.pow_succ]; omega,fun q h=>?_⟩
  rcases List.mem_append.1 h with h | h
  ·exact b0 q h
  ·exact b1 q h
theorem V3m {s:K00} (hsy:s ∈ V2w) {c:K02} (h:V0k c):Gv (Kem (c,s)) (fun r=>r.1.length ≤ 1000∧V0k r.2):=by
 obtain ⟨sy,⟨z1,z2⟩,_⟩:=V2x hsy
 have hs:=Kwg sy
 have hn:s.fSize=((s.fSize.toNat:Nat):Int):=by omega
 unfold Kem
 have hv:Gv (Ke6 s) (fun r=>∀ q ∈ r,q.length ≤ s.fSize.toNat):=by
  unfold Ke6
  rw [Kse,sy,bs,if_pos rfl]
  have ck:chk (0 ≤ s.fSize∧(Int.toNat s.fSize) * 1 ≤ 140737488355328)=some ():=by unfold chk; rw [if_pos (by omega)]
  rw [ck,bs,show (1:Int)=((1:Nat):Int) from rfl,Kor (by rw [List.length_replicate]; omega),bs]
  refine Gv.bind (V3l s hn (by omega) (fun v hv=>⟨_,Kuj hs.tab hv⟩) (s.fSize.toNat - 2) 2 _ (by omega) (by rw [List.length_set,List.length_replicate])) ?_
  rintro R ⟨a1,a2⟩
  have hp:2 ^ (s.fSize.toNat - 2) ≤ 2 ^ 10:=Nat.pow_le_pow_right (by decide) (by omega)
  refine Gv.bind (V3k R (b:=s.fSize.toNat) (by omega) a2 (by omega) R.length 0 [] (by omega) rfl (fun q h=>by cases h)) (fun r hr=>.of hr)
 refine Gv.bind hv (fun R hR=>?_)
 refine Gv.bind (Q:=fun r:List Int × Int × Int × Bool=>V0k ⟨r.1,r.2.1,r.2.2.1⟩∧(r.2.2.2=false→0 < R.length)) (.ite (fun _=>.of ⟨h,fun q=>by cases q⟩) (fun hb=>?_)) ?_
 ·have hb:=beq_eq_false_iff_ne.1 hb
  refine Gv.bind (V0s h 12) ?_
  rintro ⟨x,c1⟩ h1
  exact .of ⟨h1,fun _=>by omega⟩
 rintro ⟨b1,f1,g1,v⟩ ⟨h1,hq⟩
 simp only at h1 hq ⊢
 cases v
 ·have hl:=hq rfl
  rw [if_neg (by decide)]
  refine Gv.bind (V0r h1 _) ?_
  rintro ⟨x,c2⟩ ⟨⟨hx,_⟩,h2⟩
  simp only at hx h2 ⊢
  obtain ⟨hx0,hx1⟩:=hx (by omega)
  obtain ⟨m,rfl⟩:=Int.eq_ofNat_of_zero_le hx0
  have hm:m < R.length:=by omega
  have:=hR _ (List.getElem_mem hm)
  rw [Kor hm,bs,Ks0 _ (by omega),bs]
  exact .of ⟨by simp only; omega,h2⟩
 ·rw [if_pos rfl]
  refine Gv.bind (V0r h1 3) ?_
  rintro ⟨x,c2⟩ ⟨⟨hx,_⟩,h2⟩
  simp only at hx h2 ⊢
  obtain ⟨hx0,hx1⟩:=hx (by decide)
  obtain ⟨m,rfl⟩:=Int.eq_ofNat_of_zero_le hx0
  refine Gv.bind (V3c h2 m (by omega)) ?_
  rintro ⟨gs,c3⟩ ⟨q1,q2⟩
  exact .of ⟨by simp only at q1 ⊢; omega,q2⟩
theorem V3n {op N:Int} {ty:List Int} {ks:List K01} (h1:ty.length ≤ 9223372036854775807) (h2:ks.length ≤ 9223372036854775807) (h3:Krs ks) (h4:-9223372036854775808 ≤ N∧N ≤ 9223372036854775807):tln ⟨op,N,ty,ks⟩:=by
 rw [tln]; exact ⟨h1,h2,h3,h4⟩
theorem V3o {t:K01} (h:tln t):t.fType.length ≤ 9223372036854775807∧t.fKids.length ≤ 9223372036854775807∧Krs t.fKids∧(-9223372036854775808 ≤ t.fN∧t.fN ≤ 9223372036854775807):=by
 cases t; rwa [tln] at h
theorem V3p {a b:List K01} (ha:Krs a) (hb:Krs b):Krs (a ++ b):=by
 induction a with
 | nil=>exact hb
 | cons x a ih =>
  rw [Krs] at ha
  rw [List.cons_append,Krs]
  exact ⟨ha.1,ih ha.2⟩
theorem V3q {l:List K01} (h:Krs l) (i:Nat) {u:K01} (hu:tln u):Krs (l.set i u):=by
 induction l generalizing i with
 | nil=>exact h
 | cons x l ih =>
  rw [Krs] at h
  cases i with
  | zero=>rw [List.set_cons_zero,Krs]; exact ⟨hu,h.2⟩
  | succ i=>rw [List.set_cons_succ,Krs]; exact ⟨h.1,ih h.2 i⟩
theorem V3r {l:List K01} (h:Krs l) {i:Nat} (hi:i < l.length):tln l[i]:=by
 induction l generalizing i with
 | nil=>simp at hi
 | cons x l ih =>
  rw [Krs] at h
  cases i with
  | zero=>exact h.1
  | succ i=>exact ih h.2 (by simpa using hi)
theorem V3s:∀ (n:Nat) (c:K02) (xs:List K01) (i:Nat) (hi:i < xs.length),V0k c→tsz xs[i] ≤ n→Krs xs→xs.length + Kqs xs ≤ 2097152 →
  Gv (Kcw (c,xs,(i:Int))) (fun r=>(Krs r.1∧r.1.length=xs.length∧Kqs r.1 ≤ Kqs xs + 1)∧V0k r.2):=by
 intro n
 induction n with
 | zero=>intro c xs i hi h hn; have:=Kqu xs[i]; omega
 | succ n ih =>
  intro c xs i hi h hn hl hb
  have he:=V3o (V3r hl hi)
  have hm1:=Ktn (List.getElem_mem hi)
  have hm2:=Kqt xs[i]
  have hset:=fun u=>Ku1 hi u
  have fin:∀ (u:K01) (c':K02),tln u→tms u ≤ tms xs[i] + 1→V0k c'→Gv (some (xs.set i u,c')) (fun r=>(Krs r.1∧r.1.length=xs.length∧Kqs r.1 ≤ Kqs xs + 1)∧V0k r.2):=fun u c' q1 q2 q3=>by
   have:=hset u
   exact .of ⟨⟨V3q hl i q1,by simp,by simp only; omega⟩,q3⟩
  rw [Kcw.eq_def]
  simp only
  rw [Kor hi,bs,Int.toNat_natCast]
  generalize hx:xs[i]=e at *
  refine Gv.bind (Q:=fun r:List Int × Int × Int × Bool=>V0k ⟨r.1,r.2.1,r.2.2.1⟩∧(r.2.2.2=true→0 < e.fKids.length)) (.ite (fun hk=>?_) (fun _=>.of ⟨h,fun q=>by cases q⟩)) ?_
  ·have hk:=of_decide_eq_true hk
   refine Gv.bind (V0r h 3) ?_
   rintro ⟨y,c1⟩ ⟨_,h4⟩
   exact .of ⟨h4,fun _=>by omega⟩
  rintro ⟨b,fi,fh,v⟩ ⟨h4,hv⟩
  simp only at h4 hv ⊢
  refine .ite (fun hv1=>?_) (fun _=>?_)
  ·have hk:=hv hv1
   refine Gv.bind (V0r h4 _) ?_
   rintro ⟨j,c2⟩ ⟨⟨hj,_⟩,h5⟩
   simp only at hj h5 ⊢
   obtain ⟨hj0,hj1⟩:=hj (by omega)
   obtain ⟨m,rfl⟩:=Int.eq_ofNat_of_zero_le hj0
   have hm:m < e.fKids.length:=by omega
   rw [Kor hm,bs]
   have hts:tsz e.fKids[m] ≤ n:=by
    have h1:=Kqu e
    have h2:tsz e.fKids[m] ≤ Kqr e.fKids:=Kto (List.getElem_mem hm)
    omega
   refine Gv.bind (ih c2 e.fKids m hm h5 hts he.2.2.1 (by omega)) ?_
   rintro ⟨ks,c3⟩ ⟨⟨q1,q2,q3⟩,h6⟩
   simp only at q1 q2 q3 h6 ⊢
   exact fin _ _ (V3n he.1 (by omega) q1 he.2.2.2) (by rw [tms]; omega) h6
  ·refine Gv.bind (V0r h4 6) ?_
   rintro ⟨j,c2⟩ ⟨_,h5⟩
   simp only at h5 ⊢
   refine .ite (fun _=>?_) (fun _=>?_)
   ·refine Gv.bind (V0r h5 15) ?_
    rintro ⟨y,c3⟩ ⟨_,h6⟩
    exact fin _ _ (V3n he.1 he.2.1 he.2.2.1 he.2.2.2) (by rw [tms]; omega) h6
   refine Gv.bind (Q:=fun _:Bool=>True) (.ite (fun _=>.of trivial) (fun _=>.of trivial)) (fun w _=>?_)
   refine .ite (fun _=>?_) (fun _=>.ite (fun _=>?_) (fun _=>.ite (fun _=>?_) (fun _=>.ite (fun hk=>?_) (fun _=>?_))))
   ·refine Gv.bind (V0t h5 _ (by decide)) ?_
    rintro ⟨y,c3⟩ ⟨hy,h6⟩
    refine fin _ _ (V3n he.1 he.2.1 he.2.2.1 ?_) (by rw [tms]; omega) h6
    simp only [List.mem_cons,List.not_mem_nil,or_false] at hy
    omega
   ·refine Gv.bind (V0t h5 _ (by decide)) ?_
    rintro ⟨y,c3⟩ ⟨hy,h6⟩
    exact fin _ _ (V3n (by simp) he.2.1 he.2.2.1 he.2.2.2) (by rw [tms]; simp; omega) h6
   ·rw [Kry (by simp; omega),bs,Kor (by simp),bs,Int.toNat_natCast]
    have e2:(e.fKids ++ [(⟨0,0,[],[]⟩:K01)]).set e.fKids.length (⟨1,0,[],[]⟩:K01)=e.fKids ++ [⟨1,0,[],[]⟩]:=by simp
    rw [e2]
    have e3:tln ⟨1,0,[],[]⟩:=V3n (by simp) (by simp) (by rw [Krs]; trivial) (by decide)
    exact fin _ _ (V3n he.1 (by simp; omega) (V3p he.2.2.1 (by rw [Krs,Krs]; exact ⟨e3,trivial⟩)) he.2.2.2) (by rw [tms,Ktm]; simp [Kqs,tms]; omega) h5
   ·have hk:=of_decide_eq_true hk
    have k0:0 < e.fKids.length:=by omega
    have k1:1 < e.fKids.length:=by omega
    rw [show (0:Int)=((0:Nat):Int) from rfl,show (1:Int)=((1:Nat):Int) from rfl,Kor k0,bs,Kor k1,bs,bs,Int.toNat_natCast,Kor (by simp; omega),bs,Int.toNat_natCast]
    have a0:=V3r he.2.2.1 k0
    have a1:=V3r he.2.2.1 k1
    have s1:=Ku1 k0 e.fKids[1]
    have s2:=Ku1 (l:=e.fKids.set 0 e.fKids[1]) (i:=1) (by simp; omega) e.fKids[0]
    rw [List.getElem_set_ne (by decide)] at s2
    exact fin _ _ (V3n he.1 (by simp; omega) (V3q (V3q he.2.2.1 0 a1) 1 a0) he.2.2.2) (by rw [tms]; simp only [List.length_set]; omega) h5
   ·exact .of ⟨⟨hl,rfl,by simp⟩,h5⟩
theorem V3t {c:K02} {t:K01} (h:V0k c) (hl:tln t) (hb:tms t ≤ 1048576):Gv (Kcz (c,t)) (fun r=>(tln r.1∧tms r.1 ≤ tms t + 1)∧V0k r.2):=by
 unfold Kcz
 simp only
 refine Gv.bind (V0s h 6) ?_
 rintro ⟨x,c1⟩ h1
 simp only at h1 ⊢
 refine .ite (fun _=>?_) (fun _=>.of ⟨⟨hl,by simp⟩,h1⟩)
 rw [Kty (Ktz t hl) (by omega),bs]
 refine Gv.bind (V3s (tsz t) c1 [t] 0 (by simp) h1 (Nat.le_refl _) (by rw [Krs,Krs]; exact ⟨hl,trivial⟩) (by simp [Kqs]; omega)) ?_
 rintro ⟨zs,c2⟩ ⟨⟨q1,q2,q3⟩,h2⟩
 simp only [List.length_singleton] at q1 q2 q3 h2 ⊢
 rw [show (0:Int)=((0:Nat):Int) from rfl,Kor (by omega),bs]
 refine .of ⟨⟨V3r q1 (by omega),?_⟩,h2⟩
 have:=Ktn (List.getElem_mem (l:=zs) (n:=0) (by omega))
 simp only [Kqs] at q3
 simp only
 omega
theorem V37.tln {s:K00} (h:s ∈ V2w) {m b:Nat} {t:K01} (ht:V37 s m b t) (hb:b ≤ 100000) (hm:m ≤ 1000):tln t:=V3f (Kwg (V2x h).1) ht hb hm
mutual
theorem V3u:∀ (a b:K01),tms a ≤ 1099511627776→tms b ≤ 1099511627776→Kn3 (a,b)=some (tEq a b)
 | ⟨o,N,t,k⟩,⟨o',N',t',k'⟩,ha,hb=>by
  rw [tms] at ha hb
  rw [Kn3.eq_def,tEq]
  simp only
  rw [Kuz t t' (by omega)]
  have hk:Kn4 (k,k')=some (k.length == k'.length && Kw7 k k'):=by
   rw [Kn4.eq_def]
   simp only
   by_cases h4:k.length=k'.length
   ·have hl:=V3v k k' k k' 0 rfl rfl h4 (by omega) (by omega) (by omega)
    rw [show ((0:Nat):Int)=0 from rfl] at hl
    rw [show ((k.length:Int) != (k'.length:Int))=false by rw [h4]; exact Kov,if_neg (by decide),hl,bs,beq_iff_eq.2 h4]
    cases Kw7 k k' <;> rfl
   ·rw [bne_iff_ne.2 (by omega),if_pos rfl,beq_eq_false_iff_ne.2 h4]; rfl
  rw [hk]
  cases o == o' <;> cases N == N' <;> cases t == t' <;> rfl
theorem V3v:∀ (ks js a b:List K01) (i:Nat),a.drop i=ks→b.drop i=js→ks.length=js.length→a.length ≤ 1099511627776→Kqs ks ≤ 1099511627776→Kqs js ≤ 1099511627776→Kn5 (a,b,(i:Int))=some (if Kw7 ks js then .inl () else .inr false)
 | [],js,a,b,i,h1,h2,hl,hk,m1,m2=>by
  rw [Kn5.eq_def,Kw7]
  simp only
  rw [Kou (Kpx h1)]; rfl
 | x :: ks,[],a,b,i,h1,h2,hl,hk,m1,m2=>by simp at hl
 | x :: ks,y :: js,a,b,i,h1,h2,hl,hk,m1,m2=>by
  obtain ⟨hi,hx,hd⟩:=Kpw h1
  obtain ⟨_,hy,hd2⟩:=Kpw h2
  rw [Kqs] at m1 m2
  rw [Kn5.eq_def,Kw7]
  simp only
  rw [Kot hi,if_pos rfl,hx,bs,hy,bs,V3u x y (by omega) (by omega),bs,Kos (by omega),V3v ks js a b (i + 1) hd hd2 (by simpa using hl) hk (by omega) (by omega)]
  cases tEq x y <;> rfl
end
def p1 (op N:Int):Int:=if op == 12 then 1 else if Kr2 op then -1 else N
def p2 (op N:Int):Int:=if Kr2 op then 1 else N
theorem hp1 (op N:Int):(Kr2 op=true→gN 16 false (p1 op N)=true)∧(Kr2 op=false→p1 op N=N):=by
 unfold p1
 refine ⟨fun h=>?_,fun h=>?_⟩
 ·rw [h]
  split
  ·decide
  ·rw [if_pos rfl]; decide
 ·rw [h]
  by_cases e:op=12
  ·subst e; cases h
  ·rw [if_neg (by simp [e])]; rfl
theorem V3w {t:K01} (hb:tms t ≤ 1099511627776) (hw:wB t=true):Knd (t,t)=some true:=by
 unfold Knd
 simp only
 rw [Krr t hb,hw,bs,if_pos rfl,bs,if_pos rfl,V3u t t hb hb,bs,Kw8]
 rfl
inductive Cl:Ty→K01→Prop where
 | num (N:Int) (h:0 ≤ N∧N ≤ 2):Cl .num ⟨1,N,[],[]⟩
 | pair {a b:Ty} {k m:K01} (h1:Cl a k) (h2:Cl b m):Cl (.bin 1 a b) ⟨4,0,[],[k,m]⟩
 | left {a b:Ty} {k:K01} (h1:Cl a k):Cl (.bin 2 a b) ⟨6,0,b.code,[k]⟩
 | right {a b:Ty} {k:K01} (h1:Cl b k):Cl (.bin 2 a b) ⟨7,0,a.code,[k]⟩
 | fn {c:Int} {a b:Ty} {k:K01} (hc:Kpy c=true) (h1:Cl b k):Cl (.bin c a b) ⟨9,Kql c,a.code,[k]⟩
 | box {c:Int} {a:Ty} {k:K01} (hc:Kpz c=true) (h1:Cl a k):Cl (.un c a) ⟨11,Kql c,[],[k]⟩
theorem V3x (T:Ty):∀ v,T.ok→T.dat→vB T v=true→Cl T v:=by
 induction T with
 | num =>
  intro v _ _ h
  obtain ⟨N,rfl,hN⟩:=Kvq h
  exact .num N hN
 | bin c a b iha ihb =>
  intro v ho hd h
  rcases Ku4 ho.1 with ⟨rfl,_⟩ | ⟨rfl,_⟩ | ⟨h0,_,h2,_⟩
  ·obtain ⟨k,m,rfl,q1,q2⟩:=Kvr h
   exact .pair (iha k ho.2.1 hd.2.1 q1) (ihb m ho.2.2 hd.2.2 q2)
  ·rcases Kvs h with ⟨k,rfl,q⟩ | ⟨k,rfl,q⟩
   ·exact .left (iha k ho.2.1 hd.2.1 q)
   ·exact .right (ihb k ho.2.2 hd.2.2 q)
  ·exfalso
   have:=hd.1
   omega
 | un c a ih =>
  intro v ho hd h
  obtain ⟨k,rfl,q⟩:=Kvt h
  exact .box (Ku5 ho.1).2.1 (ih k ho.2 hd q)
theorem V3y {P:Int→Prop} {g:Int→Bool} {y:List Int→Bool} (hg:∀ c,P c→Kq0 c > 0→c > 2→g (Kql c)=true) (hy:∀ U:Ty,U.ok→U.code.length ≤ 40→(∀ c ∈ U.code,P c)→y U.code=true) {T:Ty} {v:K01} (h:Cl T v) :
  T.ok→T.code.length ≤ 40→(∀ c ∈ T.code,P c)→(∀ m:Nat,tOk g y m v=true)∧tsz v ≤ T.code.length:=by
 induction h with
 | num N hN =>
  intro _ _ _
  refine ⟨fun m=>?_,by simp [tsz,Kqr,Ty.code]⟩
  rw [Krj]
  simp [Kri,Krh,Krf,Krg,inB,Kr1,Kr2,Kr3,hN.1,hN.2]
 | @pair a b k m h1 h2 ih1 ih2 =>
  intro ho hl hp
  rw [Ty.code,List.length_cons,List.length_append] at hl ⊢
  rw [Ty.code] at hp
  obtain ⟨a1,a2⟩:=ih1 ho.2.1 (by omega) (fun c hc=>hp c (by simp [hc]))
  obtain ⟨b1,b2⟩:=ih2 ho.2.2 (by omega) (fun c hc=>hp c (by simp [hc]))
  refine ⟨fun m=>?_,by simp only [tsz,Kqr]; omega⟩
  rw [Krj]
  simp [Kri,a1,b1,Krh,Krf,Krg,inB,Kr1,Kr2,Kr3]
 | @left a b k h1 ih1 =>
  intro ho hl hp
  rw [Ty.code,List.length_cons,List.length_append] at hl ⊢
  rw [Ty.code] at hp
  obtain ⟨a1,a2⟩:=ih1 ho.2.1 (by omega) (fun c hc=>hp c (by simp [hc]))
  have yb:=hy b ho.2.2 (by omega) (fun c hc=>hp c (by simp [hc]))
  refine ⟨fun m=>?_,by simp only [tsz,Kqr]; omega⟩
  rw [Krj]
  simp [Kri,a1,yb,Krh,Krf,Krg,inB,Kr1,Kr2,Kr3]
 | @right a b k h1 ih1 =>
  intro ho hl hp
  rw [Ty.code,List.length_cons,List.length_append] at hl ⊢
  rw [Ty.code] at hp
  obtain ⟨a1,a2⟩:=ih1 ho.2.2 (by omega) (fun c hc=>hp c (by simp [hc]))
  have yb:=hy a ho.2.1 (by omega) (fun c hc=>hp c (by simp [hc]))
  refine ⟨fun m=>?_,by simp only [tsz,Kqr]; omega⟩
  rw [Krj]
  simp [Kri,a1,yb,Krh,Krf,Krg,inB,Kr1,Kr2,Kr3]
 | @fn c a b k hcc h1 ih1 =>
  intro ho hl hp
  rw [Ty.code,List.length_cons,List.length_append] at hl ⊢
  rw [Ty.code] at hp
  obtain ⟨a1,a2⟩:=ih1 ho.2.2 (by omega) (fun c hc=>hp c (by simp [hc]))
  have yb:=hy a ho.2.1 (by omega) (fun c hc=>hp c (by simp [hc]))
  have gg:=hg c (hp c (by simp)) (by rw [ho.1]; decide) (by unfold Kpy inB at hcc; simp at hcc; omega)
  refine ⟨fun m=>?_,by simp only [tsz,Kqr]; omega⟩
  rw [Krj]
  simp [Kri,a1,yb,gg,Krh,Krf,Krg,inB,Kr1,Kr2,Kr3]
 | @box c a k hcc h1 ih1 =>
  intro ho hl hp
  rw [Ty.code,List.length_cons] at hl ⊢
  rw [Ty.code] at hp
  obtain ⟨a1,a2⟩:=ih1 ho.2 (by omega) (fun c hc=>hp c (by simp [hc]))
  have gg:=hg c (hp c (by simp)) (by rw [ho.1]; decide) (by unfold Kpz inB at hcc; simp at hcc; omega)
  refine ⟨fun m=>?_,by simp only [tsz,Kqr]; omega⟩
  rw [Krj]
  simp [Kri,a1,gg,Krh,Krf,Krg,inB,Kr1,Kr2,Kr3]
theorem V3z {size c:Int} (h:Kqm size true c=true) (h1:Kq0 c > 0) (h2:c > 2):gN size true (Kql c)=true:=by
 unfold Kqm at h
 unfold gN
 simp [h1,h2] at h ⊢
 omega
theorem V40 {size c:Int} (hs:size ≤ 16) (h:Kqm size true c=true) (h1:Kq0 c > 0) (h2:c > 2):gN 16 false (Kql c)=true:=by
 unfold Kqm at h
 unfold gN
 simp [h1,h2] at h ⊢
 omega
theorem V41 {s:K00} (hsz:s.fSize ≤ 16) {T:Ty} {v:K01} (h:Cl T v) (ho:T.ok) (hl:T.code.length ≤ 40) (hg:T.code.all (Kqm s.fSize true)=true) :
  (∀ m:Nat,tOk (gN s.fSize true) (yN s.fSize true) m v=true)∧wB v=true∧tsz v ≤ 40:=by
 rw [List.all_eq_true] at hg
 obtain ⟨q1,q2⟩:=V3y (P:=fun c=>Kqm s.fSize true c=true) (g:=gN s.fSize true) (y:=yN s.fSize true) (fun c h h1 h2=>V3z h h1 h2) (fun U u1 u2 u3=>by
  unfold yN
  rw [Kso u1 u2,List.all_eq_true.2 u3]; rfl) h ho hl hg
 obtain ⟨r1,_⟩:=V3y (P:=fun c=>Kqm s.fSize true c=true) (g:=gN 16 false) (y:=wtB) (fun c h h1 h2=>V40 hsz h h1 h2) (fun U u1 u2 u3=>Kso u1 u2) h ho hl hg
 refine ⟨q1,?_,by omega⟩
 unfold wB
 rw [r1 8,decide_eq_true (by omega)]; rfl
theorem V42 {s:K00} {T:Ty} (h:Ktd s T.code=true):Ksc s=true∧T.code.all (Kqm s.fSize true)=true:=by
 unfold Ktd at h
 rw [Bool.and_eq_true] at h
 refine ⟨h.1,?_⟩
 have h2:=h.2
 rw [Ktc (Ksd h.1)] at h2
 unfold yN at h2
 rw [Bool.and_eq_true] at h2
 exact h2.2
theorem V43 (T:Ty):T.ok→T.dat→vB T (dfl T)=true:=by
 induction T with
 | num=>intro _ _; rfl
 | bin c a b iha ihb =>
  intro ho hd
  rw [dfl]
  rcases hd.1 with rfl | rfl
  ·rw [if_pos rfl,Kv1,if_pos rfl]
   simp [iha ho.2.1 hd.2.1,ihb ho.2.2 hd.2.2]
  ·rw [if_neg (by decide),if_pos rfl,Kv1,if_neg (by decide)]
   simp [iha ho.2.1 hd.2.1]
 | un c a ih =>
  intro ho hd
  rw [dfl,Kv2]
  simp [ih ho.2 hd]
structure Sm (u:K01):Prop where
 shf:∀ b f:Int,shf b f u=u
 put:∀ (v:K01) (d:Int),put v d u=u
 ok:∀ m:Nat,tOk (gN 16 false) wtB m u=true
 sz:tsz u ≤ 3
 ms:tms u ≤ 10
theorem Sm.wB {u:K01} (h:Sm u):wB u=true:=by
 unfold Am.wB
 rw [h.ok 8,decide_eq_true (by have:=h.sz; omega)]; rfl
theorem V44 (view:List Int) (T:Ty):∀ v,T.ok→T.dat→vB T v=true→vB T (Kvw view T v)=true:=by
 induction T with
 | num=>intro v _ _ h; exact h
 | bin c a b iha ihb =>
  intro v ho hd h
  rcases hd.1 with rfl | rfl
  ·obtain ⟨k,m,rfl,h1,h2⟩:=Kvr h
   rw [Kvw,if_pos rfl,Kv1,if_pos rfl]
   simp [Kvu,iha k ho.2.1 hd.2.1 h1,ihb m ho.2.2 hd.2.2 h2]
  ·rcases Kvs h with ⟨k,rfl,h1⟩ | ⟨k,rfl,h1⟩
   ·rw [Kvw,if_neg (by decide),if_pos rfl,Kv1,if_neg (by decide)]
    simp [Kvu,iha k ho.2.1 hd.2.1 h1]
   ·rw [Kvw,if_neg (by decide),if_neg (by simp),Kv1,if_neg (by decide)]
    simp [Kvu,ihb k ho.2.2 hd.2.2 h1]
 | un c a ih =>
  intro v ho hd h
  obtain ⟨k,rfl,h1⟩:=Kvt h
  rw [Kvw,Kv2]
  cases view.contains (Kql c)
  ·simp [V43 a ho.2 hd]
  ·simp [Kvu,ih k ho.2 hd h1]
section
variable {s:K00} {n:Nat} (hs:Kwf s n)
include hs
theorem V45:∀ (d:Nat) (c:K02),d ≤ 3→V0k c→Gv (Kbf (c,s,(d:Int),true)) (fun r=>(∃ T:Ty,T.ok∧T.dat∧r.1=T.code∧r.1.length + 1 ≤ 2 ^ (d + 1))∧V0k r.2):=by
 have hsz:=hs.tab.size
 have hlo:=hs.tab.lo
 intro d
 induction d with
 | zero =>
  intro c _ h
  rw [Kbf.eq_def]
  simp only
  refine Gv.bind (V0r h 6) ?_
  rintro ⟨x,c1⟩ ⟨hx,h1⟩
  simp only at hx h1 ⊢
  rw [show decide (((0:Nat):Int) ≤ 0)=true from rfl,if_pos rfl,bs,if_pos rfl]
  exact .of ⟨⟨.num,by simp [Ty.ok],by simp [Ty.dat],rfl,by simp⟩,h1⟩
 | succ d ih =>
  intro c hd h
  have hp:=V35 (d + 1) (by omega)
  have hp5:2 ^ (d + 1) ≤ 8:=Nat.le_trans (Nat.pow_le_pow_right (by decide) (show d + 1 ≤ 3 by omega)) (by decide)
  have hpe:2 ^ (d + 1 + 1)=2 ^ (d + 1) + 2 ^ (d + 1):=by rw [Nat.pow_succ]; omega
  have hp1:2 ≤ 2 ^ (d + 1):=Nat.le_trans (by decide) (Nat.pow_le_pow_right (n:=2) (by decide) (show 1 ≤ d + 1 by omega))
  have wd:wr (((d + 1:Nat):Int) - 1)=((d:Nat):Int):=by rw [Koq (by omega) (by omega)]; omega
  rw [Kbf.eq_def]
  simp only
  refine Gv.bind (V0r h 6) ?_
  rintro ⟨x,c1⟩ ⟨hx,h1⟩
  simp only at hx h1 ⊢
  rw [show decide (((d + 1:Nat):Int) ≤ 0)=false from decide_eq_false (by omega),if_neg (by decide),bs]
  refine .ite (fun _=>.of ⟨⟨.num,by simp [Ty.ok],by simp [Ty.dat],rfl,by simp; omega⟩,h1⟩) (fun _=>?_)
  rw [wd]
  refine Gv.bind (ih c1 (by omega) h1) ?_
  rintro ⟨a,c2⟩ ⟨⟨A,ta,da,rfl,ha⟩,h2⟩
  simp only at ha h2 ⊢
  refine .ite (fun _=>?_) (fun _=>?_)
  ·refine Gv.bind (V0r h2 _) ?_
   rintro ⟨y,c3⟩ ⟨hy,h3⟩
   simp only at hy h3 ⊢
   have hy:=hy.1 (by omega)
   obtain ⟨g,rfl⟩:∃ g:Nat,y=(g:Int):=⟨y.toNat,by omega⟩
   obtain ⟨k1,k2⟩:=V38 hs (g:=g) (by omega)
   have hb:=hs.tab.hi
   rw [Koq (by omega) (by omega),V33 _ _ (by omega),bs]
   exact .of ⟨⟨.un (19 + (g:Int)) A,⟨k1,ta⟩,da,rfl,by simp; omega⟩,h3⟩
  have e:(if (x == 3)=true then some (!true) else some false)=some false:=by cases x == 3 <;> rfl
  rw [e,bs,if_neg (by decide)]
  refine .ite (fun _=>?_) (fun _=>?_)
  ·refine Gv.bind (ih c2 (by omega) h2) ?_
   rintro ⟨b,c4⟩ ⟨⟨B,tb,db,rfl,hb⟩,h4⟩
   simp only at hb h4 ⊢
   rw [V34 _ _ _ (by omega),bs]
   exact .of ⟨⟨.bin 2 A B,⟨rfl,ta,tb⟩,⟨.inr rfl,da,db⟩,rfl,by simp; omega⟩,h4⟩
  ·refine Gv.bind (ih c2 (by omega) h2) ?_
   rintro ⟨b,c4⟩ ⟨⟨B,tb,db,rfl,hb⟩,h4⟩
   simp only at hb h4 ⊢
   rw [V34 _ _ _ (by omega),bs]
   exact .of ⟨⟨.bin 1 A B,⟨rfl,ta,tb⟩,⟨.inl rfl,da,db⟩,rfl,by simp; omega⟩,h4⟩
end
theorem V46 (T:Ty):∀ c:K02,T.ok→T.dat→T.code.length ≤ 1000→V0k c→Gv (Kcd (c,T.code)) (fun r=>vB T r.1=true∧V0k r.2):=by
 induction T with
 | num =>
  intro c _ _ _ h
  rw [Kcd.eq_def]
  simp only
  rw [show idx (Ty.num.code) 0=some 0 from rfl,bs,if_pos (by decide)]
  refine Gv.bind (V0r h 3) ?_
  rintro ⟨x,c1⟩ ⟨⟨hx,_⟩,h1⟩
  simp only at hx h1 ⊢
  have hx:=hx (by decide)
  rw [sOp,bs]
  refine .of ⟨?_,h1⟩
  rw [Kv0]
  simp [inB]
  omega
 | bin c0 a b iha ihb =>
  intro c ho hd hl h
  have hcode:(Ty.bin c0 a b).code=c0 :: (a.code ++ b.code):=rfl
  rw [hcode] at hl ⊢
  simp only [List.length_cons,List.length_append] at hl
  have p0:=Ksv (c:=c0) (r:=b.code) ho.2.1 (by simp; omega)
  have p1:=Ksw (c:=c0) (r:=b.code) ho.2.1 (by simp; omega)
  rw [Kcd.eq_def]
  simp only
  rw [show idx (c0 :: (a.code ++ b.code)) 0=some c0 from rfl,bs]
  rcases hd.1 with rfl | rfl
  ·rw [if_neg (by decide),if_pos (by decide),p0,bs]
   refine Gv.bind (iha c ho.2.1 hd.2.1 (by omega) h) ?_
   rintro ⟨x,c1⟩ ⟨q1,h1⟩
   simp only at q1 h1 ⊢
   rw [p1,bs]
   refine Gv.bind (ihb c1 ho.2.2 hd.2.2 (by omega) h1) ?_
   rintro ⟨y,c2⟩ ⟨q2,h2⟩
   simp only at q2 h2 ⊢
   rw [sOp,bs]
   refine .of ⟨?_,h2⟩
   rw [Kv1,if_pos rfl]
   simp [q1,q2]
  ·rw [if_neg (by decide),if_neg (by decide),if_pos (by decide)]
   refine Gv.bind (Q:=fun r:List Int × Int × Int × Bool=>V0k ⟨r.1,r.2.1,r.2.2.1⟩) (Gv.bind (V0s h 2) (by rintro ⟨x,c1⟩ h1; exact .of h1)) ?_
   rintro ⟨b1,f1,g1,v⟩ h1
   simp only at h1 ⊢
   refine .ite (fun _=>?_) (fun _=>?_)
   ·rw [p1,bs,p0,bs]
    refine Gv.bind (iha _ ho.2.1 hd.2.1 (by omega) h1) ?_
    rintro ⟨x,c1⟩ ⟨q1,h2⟩
    refine .of ⟨?_,h2⟩
    simp only at q1 ⊢
    rw [Kv1,if_neg (by decide)]
    simp [q1]
   ·rw [if_pos (by decide),p0,bs,p1,bs]
    refine Gv.bind (ihb _ ho.2.2 hd.2.2 (by omega) h1) ?_
    rintro ⟨x,c1⟩ ⟨q1,h2⟩
    refine .of ⟨?_,h2⟩
    simp only at q1 ⊢
    rw [Kv1,if_neg (by decide)]
    simp [q1]
 | un c0 a ih =>
  intro c ho hd hl h
  have hcode:(Ty.un c0 a).code=c0 :: a.code:=rfl
  rw [hcode] at hl ⊢
  simp only [List.length_cons] at hl
  have p0:=Ksv (c:=c0) (r:=[]) ho.2 (by simp; omega)
  rw [List.append_nil] at p0
  obtain ⟨⟨e0,e1,e2⟩,_⟩:=Ku5 ho.1
  rw [Kcd.eq_def]
  simp only
  rw [show idx (c0 :: a.code) 0=some c0 from rfl,bs,if_neg (by simpa using e0),if_neg (by simpa using e1),if_neg (by simpa using e2),bs]
  simp only
  rw [if_neg (by decide),if_neg (by simpa using e2),Kqn (by rw [ho.1]; decide),bs,p0,bs]
  refine Gv.bind (ih c ho.2 hd (by omega) h) ?_
  rintro ⟨x,c1⟩ ⟨q1,h2⟩
  simp only at q1 h2 ⊢
  rw [sOp,bs]
  refine .of ⟨?_,h2⟩
  rw [Kv2]
  simp [q1]
theorem V47 (view:List Int) (T:Ty):∀ v w,T.dat→vB T v=true→vB T w=true→Kvv view T v w=tEq (Kvw view T v) (Kvw view T w):=by
 induction T with
 | num =>
  intro v w _ h h'
  obtain ⟨N,rfl,_⟩:=Kvq h
  obtain ⟨M,rfl,_⟩:=Kvq h'
  simp [Kvv,Kvw,tEq,Kw7]
 | bin c a b iha ihb =>
  intro v w hd h h'
  rcases hd.1 with rfl | rfl
  ·obtain ⟨k,m,rfl,h1,h2⟩:=Kvr h
   obtain ⟨k',m',rfl,h1',h2'⟩:=Kvr h'
   rw [Kvv,if_pos rfl,Kvw,if_pos rfl,Kvw,if_pos rfl]
   simp [Kvu,tEq,Kw7,iha k k' hd.2.1 h1 h1',ihb m m' hd.2.2 h2 h2']
  ·rcases Kvs h with ⟨k,rfl,h1⟩ | ⟨k,rfl,h1⟩ <;> rcases Kvs h' with ⟨k',rfl,h1'⟩ | ⟨k',rfl,h1'⟩
   ·simp [Kvv,Kvw,Kvu,tEq,Kw7,iha k k' hd.2.1 h1 h1']
   ·simp [Kvv,Kvw,Kvu,tEq,Kw7]
   ·simp [Kvv,Kvw,Kvu,tEq,Kw7]
   ·simp [Kvv,Kvw,Kvu,tEq,Kw7,ihb k k' hd.2.2 h1 h1']
 | un c a ih =>
  intro v w hd h h'
  obtain ⟨k,rfl,h1⟩:=Kvt h
  obtain ⟨k',rfl,h1'⟩:=Kvt h'
  rw [Kvv,Kvw,Kvw]
  cases view.contains (Kql c)
  ·simp [tEq,Kw7,Kw8]
  ·simp [Kvu,tEq,Kw7,ih k k' hd h1 h1']
theorem V48 (view:List Int) (T:Ty):∀ v,T.dat→vB T v=true→Kvw view T (Kvw view T v)=Kvw view T v:=by
 induction T with
 | num=>intro v _ _; rfl
 | bin c a b iha ihb =>
  intro v hd h
  rcases hd.1 with rfl | rfl
  ·obtain ⟨k,m,rfl,h1,h2⟩:=Kvr h
   have e:Kvw view (.bin 1 a b) ⟨4,0,[],[k,m]⟩=⟨4,0,[],[Kvw view a k,Kvw view b m]⟩:=by rw [Kvw,if_pos rfl]; rfl
   rw [e,Kvw,if_pos rfl]
   simp [Kvu,iha k hd.2.1 h1,ihb m hd.2.2 h2]
  ·rcases Kvs h with ⟨k,rfl,h1⟩ | ⟨k,rfl,h1⟩
   ·have e:Kvw view (.bin 2 a b) ⟨6,0,b.code,[k]⟩=⟨6,0,b.code,[Kvw view a k]⟩:=by rw [Kvw,if_neg (by decide),if_pos rfl]; rfl
    rw [e,Kvw,if_neg (by decide),if_pos rfl]
    simp [Kvu,iha k hd.2.1 h1]
   ·have e:Kvw view (.bin 2 a b) ⟨7,0,a.code,[k]⟩=⟨7,0,a.code,[Kvw view b k]⟩:=by rw [Kvw,if_neg (by decide),if_neg (by simp)]; rfl
    rw [e,Kvw,if_neg (by decide),if_neg (by simp)]
    simp [Kvu,ihb k hd.2.2 h1]
 | un c a ih =>
  intro v hd h
  obtain ⟨k,rfl,h1⟩:=Kvt h
  cases hv:view.contains (Kql c)
  ·rw [Kvw,Kvw,hv]; rfl
  ·have e:Kvw view (.un c a) ⟨11,Kql c,[],[k]⟩=⟨11,Kql c,[],[Kvw view a k]⟩:=by rw [Kvw,hv,if_pos rfl]; rfl
   rw [e,Kvw,hv,if_pos rfl]
   simp [Kvu,ih k hd h1]
theorem V49 {s:K00} {view ty:List Int} (v w:K01) (hvl:view.length ≤ 1048576) (hty:ty.length ≤ 1048576) (h:(vwB s view && (Ktd s ty && Ksx ty))=false) :
  Kj8 (s,view,ty,v)=some (noT,false)∧Km5 (s,view,ty,v)=some (noT,false)∧Kmb (s,view,ty,v,w)=some false:=by
 unfold Kj8 Km5 Kmb
 simp only
 rw [iVw s view (by omega),sVw s view (by omega)]
 cases hz:vwB s view
 ·exact ⟨rfl,rfl,rfl⟩
 ·rw [hz,Bool.true_and] at h
  rw [(Kw0 v hty h).1,(Kw0 v hty h).2]
  exact ⟨rfl,rfl,rfl⟩
theorem V4a {s:K00} {view:List Int} {T:Ty} {v:K01} (hview:vwB s view=true) (hvl:view.length ≤ 1048576) (h:(Ktd s T.code && Ksx T.code)=true) (h1:T.ok) (h2:T.dat) (h4:T.code.length ≤ 40) (hv:tms v ≤ 1048576) :
  Kj8 (s,view,T.code,v)=some (if vB T v then (Kvw view T v,true) else (noT,false))∧Km5 (s,view,T.code,v)=some (if vB T v then (Kvw view T v,true) else (noT,false)):=by
 unfold Kj8 Km5
 simp only
 rw [iVw s view (by omega),sVw s view (by omega),hview]
 obtain ⟨x1,x2⟩:=Kw1 v h h1 h2 h4 hv
 rw [x1,x2]
 cases q:vB T v
 ·exact ⟨rfl,rfl⟩
 ·have e1:=Kw5 view (by omega) T v h1 h2 (by omega) q
  have e2:=Kw6 view (by omega) T v h1 h2 (by omega) hv q
  simp only [bs,if_true,e1,e2,Bool.not_true,Bool.false_eq_true,if_false]
  exact ⟨trivial,trivial⟩
theorem V4b {s:K00} {view:List Int} {T:Ty} {v w:K01} (hview:vwB s view=true) (hvl:view.length ≤ 1048576) (h:(Ktd s T.code && Ksx T.code)=true) (h1:T.ok) (h2:T.dat) (h4:T.code.length ≤ 40) (hv:tms v ≤ 1048576) (hw:tms w ≤ 1048576) :
  Kmb (s,view,T.code,v,w)=some (vB T v && (vB T w && Kvv view T v w)):=by
 unfold Kmb
 simp only
 rw [iVw s view (by omega),hview]
 obtain ⟨x1,x2⟩:=Kw1 v h h1 h2 h4 hv
 obtain ⟨y1,y2⟩:=Kw1 w h h1 h2 h4 hw
 rw [x2,y2]
 cases q:vB T v
 ·rfl
 ·cases q':vB T w
  ·rfl
  ·have e2:=Kw2 view (by omega) T v w h1 h2 (by omega) q q'
   simp only [bs,if_true,e2]
   rfl
theorem V4c (T:Ty):∀ v,T.ok→T.dat→T.code.length ≤ 1000→vB T v=true→tln v∧tms v ≤ 3 * T.code.length:=by
 induction T with
 | num =>
  intro v _ _ _ h
  obtain ⟨N,rfl,h1,h2⟩:=Kvq h
  exact ⟨V3n (by simp) (by simp) (by rw [Krs]; trivial) (by omega),by simp [tms,Kqs]⟩
 | bin c a b iha ihb =>
  intro v ho hd hl h
  have hcode:(Ty.bin c a b).code=c :: (a.code ++ b.code):=rfl
  rw [hcode] at hl ⊢
  simp only [List.length_cons,List.length_append] at hl ⊢
  rcases hd.1 with rfl | rfl
  ·obtain ⟨k,m,rfl,h1,h2⟩:=Kvr h
   obtain ⟨q1,q2⟩:=iha k ho.2.1 hd.2.1 (by omega) h1
   obtain ⟨q3,q4⟩:=ihb m ho.2.2 hd.2.2 (by omega) h2
   exact ⟨V3n (by simp) (by simp) (by rw [Krs,Krs,Krs]; exact ⟨q1,q3,trivial⟩) (by decide),by simp [tms,Kqs]; omega⟩
  ·rcases Kvs h with ⟨k,rfl,h1⟩ | ⟨k,rfl,h1⟩
   ·obtain ⟨q1,q2⟩:=iha k ho.2.1 hd.2.1 (by omega) h1
    exact ⟨V3n (by omega) (by simp) (by rw [Krs,Krs]; exact ⟨q1,trivial⟩) (by decide),by simp [tms,Kqs]; omega⟩
   ·obtain ⟨q1,q2⟩:=ihb k ho.2.2 hd.2.2 (by omega) h1
    exact ⟨V3n (by omega) (by simp) (by rw [Krs,Krs]; exact ⟨q1,trivial⟩) (by decide),by simp [tms,Kqs]; omega⟩
 | un c a ih =>
  intro v ho hd hl h
  have hcode:(Ty.un c a).code=c :: a.code:=rfl
  rw [hcode] at hl ⊢
  simp only [List.length_cons] at hl ⊢
  obtain ⟨k,rfl,h1⟩:=Kvt h
  obtain ⟨q1,q2⟩:=ih k ho.2 hd (by omega) h1
  have hg:-9223372036854775808 ≤ Kql c∧Kql c ≤ 9223372036854775807:=by
   have hb:=(Ku5 ho.1).2.1
   unfold Kpz inB at hb
   simp at hb
   unfold Kql
   (repeat' split) <;> omega
  exact ⟨V3n (by simp) (by simp) (by rw [Krs,Krs]; exact ⟨q1,trivial⟩) hg,by simp [tms,Kqs]; omega⟩
theorem V4d (s:K00) (view:List Int) (T:Ty) (v w:K01) (hvl:view.length ≤ 1000) (h1:T.ok) (h2:T.dat) (h4:T.code.length ≤ 40) (hq:vB T v=true) (hv:tms v ≤ 1000000) (hw:tms w ≤ 1000000) (code:List Int) (e1:K7g code=some false) (e2:Kep code=some (s,view,T.code,v,w)):Kng code=some true:=by
 unfold Kng
 rw [e1,bs,if_neg (by decide),e2,bs]
 simp only
 cases hz:vwB s view && (Ktd s T.code && Ksx T.code)
 ·obtain ⟨a1,a2,a3⟩:=V49 v w (by omega) (by omega) hz
  obtain ⟨b1,b2,_⟩:=V49 w w (by omega) (by omega) hz
  rw [a1,bs,b1,bs]
  simp only [Bool.false_eq_true,if_false,bs,if_true]
  rw [a2,bs,b2,bs,a3]
  rfl
 ·rw [Bool.and_eq_true] at hz
  obtain ⟨hview,hd⟩:=hz
  obtain ⟨a1,a2⟩:=V4a (v:=v) hview (by omega) hd h1 h2 h4 (by omega)
  obtain ⟨b1,b2⟩:=V4a (v:=w) hview (by omega) hd h1 h2 h4 (by omega)
  have a3:=V4b (v:=v) (w:=w) hview (by omega) hd h1 h2 h4 (by omega) (by omega)
  rw [hq,if_pos rfl] at a1 a2
  rw [hq,Bool.true_and] at a3
  rw [a1,bs,b1,bs]
  cases hqw:vB T w
  ·rw [hqw] at b2 a3
   simp only [Bool.false_eq_true,if_false,bs,if_true,Bool.not_false]
   rw [a2,bs,b2,bs,a3]
   rfl
  ·have hty:Ktd s T.code=true:=by rw [Bool.and_eq_true] at hd; exact hd.1
   obtain ⟨sy,hg⟩:=V42 hty
   have hsz:s.fSize ≤ 16:=by have:=(Ksd sy).hi; have:=(Ksd sy).size; omega
   have qe:=V44 view T v h1 h2 hq
   have qw:=V44 view T w h1 h2 hqw
   obtain ⟨_,w1,_⟩:=V41 hsz (V3x T _ h1 h2 qe) h1 h4 hg
   obtain ⟨_,w2,_⟩:=V41 hsz (V3x T _ h1 h2 qw) h1 h4 hg
   have m1:=Kvx view T v hq
   have m2:=Kvx view T w hqw
   obtain ⟨c1,_⟩:=V4a (v:=Kvw view T v) hview (by omega) hd h1 h2 h4 (by omega)
   rw [qe,if_pos rfl,V48 view T v h2 hq] at c1
   have c3:=V4b (v:=v) (w:=Kvw view T v) hview (by omega) hd h1 h2 h4 (by omega) (by omega)
   rw [hq,qe,V47 view T v _ h2 hq qe,V48 view T v h2 hq,Kw8] at c3
   rw [hqw,Bool.true_and,V47 view T v w h2 hq hqw] at a3
   have hs2:Knd (Kvw view T v,Kvw view T w)=some (tEq (Kvw view T v) (Kvw view T w)):=by
    unfold Knd
    simp only
    rw [Krr _ (by omega),w1,bs,if_pos rfl,Krr _ (by omega),w2,bs,if_pos rfl,V3u _ _ (by omega) (by omega)]
    rfl
   simp only [if_true,bs,Bool.not_true,Bool.false_eq_true,if_false]
   rw [c1,bs]
   simp only [if_true]
   rw [V3w (by omega) w1,bs,if_pos rfl,c3,bs]
   simp only [Bool.and_self,if_true]
   rw [a3,bs,hs2,bs]
   simp
theorem V4e (code:List Int) (w:code.length ≤ maxLen∧∀ v ∈ code,0 ≤ v∧v ≤ 255):Kng code=some true:=by
 by_cases hbig:(code.length:Int) > 1048576
 ·unfold Kng K7g
  rw [bs,decide_eq_true hbig,if_pos rfl]
 have e1:K7g code=some false:=by unfold K7g; rw [decide_eq_false hbig]
 have G:Gv (Kep code) (fun r=>r.2.1.length ≤ 1000∧∃ T:Ty,T.ok∧T.dat∧r.2.2.1=T.code∧T.code.length ≤ 40∧vB T r.2.2.2.1=true∧tms r.2.2.2.1 ≤ 1000∧tms r.2.2.2.2 ≤ 1001):=by
  unfold Kep
  refine Gv.bind (V0o code (by omega) w.2) (fun c0 h0=>?_)
  refine Gv.bind (V32 h0) ?_
  rintro ⟨s,c1⟩ ⟨hsy,h1⟩
  simp only at hsy h1 ⊢
  have hs:=Kwg (V2x hsy).1
  refine Gv.bind (V45 hs 3 c1 (by decide) h1) ?_
  rintro ⟨ty,c2⟩ ⟨⟨T,t1,t2,rfl,t4⟩,h2⟩
  simp only at t4 h2 ⊢
  have hT:T.code.length ≤ 40:=by omega
  have tl:∀ u,vB T u=true→tln u∧tms u ≤ 1000:=fun u hu=>by
   obtain ⟨z1,z2⟩:=V4c T u t1 t2 (by omega) hu
   exact ⟨z1,by omega⟩
  refine Gv.bind (V46 T c2 t1 t2 (by omega) h2) ?_
  rintro ⟨v,c3⟩ ⟨q1,h3⟩
  simp only at q1 h3 ⊢
  refine Gv.bind (V46 T c3 t1 t2 (by omega) h3) ?_
  rintro ⟨⟨u1,u2,u3,u4⟩,c4⟩ ⟨q2,h4⟩
  simp only at q2 h4 ⊢
  refine Gv.bind (V0s h4 5) ?_
  rintro ⟨x,c5⟩ h5
  simp only at h5 ⊢
  refine Gv.bind (Q:=fun r:List Int × Int × Int × Int × Int × List Int × List K01=>V0k ⟨r.1,r.2.1,r.2.2.1⟩∧tms ⟨r.2.2.2.1,r.2.2.2.2.1,r.2.2.2.2.2.1,r.2.2.2.2.2.2⟩ ≤ 1001) (.ite (fun _=>?_) (fun _=>.of ⟨h5,by have:=(tl _ q2).2; simp only; omega⟩)) ?_
  ·refine Gv.bind (V3t h5 (tl _ q1).1 (by have:=(tl _ q1).2; omega)) ?_
   rintro ⟨⟨p1,p2,p3,p4⟩,c6⟩ ⟨⟨_,z⟩,h6⟩
   exact .of ⟨h6,by have:=(tl _ q1).2; simp only at z ⊢; omega⟩
  rintro ⟨b1,b2,b3,b4,b5,b6,b7⟩ ⟨h6,z⟩
  simp only at h6 z ⊢
  refine Gv.bind (V3m hsy h6) ?_
  rintro ⟨vw,c7⟩ ⟨hv,_⟩
  exact .of ⟨hv,T,t1,t2,rfl,hT,q1,(tl _ q1).2,z⟩
 obtain ⟨⟨s,view,ty,v,u⟩,e2,q1,T,t1,t2,rfl,t4,t5,t6,t7⟩:=G
 exact V4d s view T v u q1 t1 t2 t4 t5 (by simp only at t6; omega) (by simp only at t7; omega) code e1 e2
end Go.Am
