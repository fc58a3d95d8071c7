/- Plain laws of the printed functions. -/
import Derived.Test.YtckgdfakjjdodaaGreatPCON1
set_option linter.unusedSimpArgs false
set_option linter.unusedVariables false
namespace Go.Am
theorem V0l (g:Nat) (h:g ≤ 15):Kpw (3 + (g:Int))=(3,(g:Int)):=by
 rcases Kpy (3 + (g:Int)) with h | h | h | h | h | h | h | h <;> first | omega | (obtain ⟨_,e⟩:=h; rw [e]; congr 1; omega)
theorem V0m (g:Nat) (h:g ≤ 15):Kpw (19 + (g:Int))=(4,(g:Int)):=by
 rcases Kpy (19 + (g:Int)) with h | h | h | h | h | h | h | h <;> first | omega | (obtain ⟨_,e⟩:=h; rw [e]; congr 1; omega)
theorem V0n (g:Nat) (h:g ≤ 15):Kpp (3 + (g:Int))=true:=by unfold Kpp inB; simp; omega
theorem V0o (g:Nat) (h:g ≤ 15):Kpp (19 + (g:Int))=false:=by unfold Kpp inB; simp; omega
theorem V0p (g:Nat) (h:g ≤ 15):Kpq (3 + (g:Int))=false:=by unfold Kpq inB; simp; omega
theorem V0q (g:Nat) (h:g ≤ 15):Kpq (19 + (g:Int))=true:=by unfold Kpq inB; simp; omega
theorem V0r (g:Nat) (h:g ≤ 15):Kd9 (3 + (g:Int))=some (g:Int):=by
 rw [Kqe (by rcases Kpv (3 + (g:Int)) with h | h | h | h <;> omega)]
 unfold Kqc
 rw [if_neg (by omega),if_neg (by omega)]
 congr 1; omega
theorem V0s (g:Nat) (h:g ≤ 15):Kd9 (19 + (g:Int))=some (g:Int):=by
 rw [Kqe (by rcases Kpv (19 + (g:Int)) with h | h | h | h <;> omega)]
 unfold Kqc
 rw [if_neg (by omega),if_pos (by omega)]
 congr 1; omega
section
variable {s:K02} {n:Nat} (hs:Kwv s n) {ctx:List (List Int)} {N:Int} {ty:List Int} {ks:List K00}
include hs
structure V0t (s:K02) (n:Nat) (q:List Int) (c:Int):Prop where
 arr:(Kpw c).1=3→∃ (g:Nat) (a b:List Int),g < n∧g ≤ 15∧c=3 + (g:Int)∧q=c :: (a ++ b)∧Ky7 s (3 + (g:Int)) a b
 pair:(Kpw c).1=1→∃ (a b:List Int),c=1∧q=c :: (a ++ b)∧Ky7 s 1 a b
 sum:(Kpw c).1=2→∃ (a b:List Int),c=2∧q=c :: (a ++ b)∧Ky7 s 2 a b
 box:(Kpw c).1=4→∃ (g:Nat) (a:List Int),g < n∧g ≤ 15∧c=19 + (g:Int)∧q=c :: a∧Ky8 s (19 + (g:Int)) a
 arrB:Kpp c=true ↔ (Kpw c).1=3
 boxB:Kpq c=true ↔ (Kpw c).1=4
 one:c=1 ↔ (Kpw c).1=1
 two:c=2 ↔ (Kpw c).1=2
theorem V0u {q:List Int} (hq:TyS s q) {c:Int} {r:List Int} (e:q=c :: r):V0t s n q c:=by
 rcases Kyd hs hq with rfl | ⟨a,b,rfl,P⟩ | ⟨a,b,rfl,P⟩ | ⟨g,a,b,hg,h15,rfl,P⟩ | ⟨g,a,hg,h15,rfl,P⟩
 ·cases e
  refine ⟨fun h=>?_,fun h=>?_,fun h=>?_,fun h=>?_,by decide,by decide,by decide,by decide⟩ <;> exact absurd h (by decide)
 ·cases e
  refine ⟨fun h=>absurd h (by decide),fun _=>⟨a,b,rfl,rfl,P⟩,fun h=>absurd h (by decide),fun h=>absurd h (by decide),by decide,by decide,by decide,by decide⟩
 ·cases e
  refine ⟨fun h=>absurd h (by decide),fun h=>absurd h (by decide),fun _=>⟨a,b,rfl,rfl,P⟩,fun h=>absurd h (by decide),by decide,by decide,by decide,by decide⟩
 ·cases e
  have hsh:=V0l g h15
  refine ⟨fun _=>⟨g,a,b,hg,h15,rfl,rfl,P⟩,fun h=>?_,fun h=>?_,fun h=>?_,?_,?_,?_,?_⟩
  ·rw [hsh] at h; simp at h
  ·rw [hsh] at h; simp at h
  ·rw [hsh] at h; simp at h
  ·rw [hsh,V0n g h15]; simp
  ·rw [hsh,V0p g h15]; simp
  ·rw [hsh]; simp; omega
  ·rw [hsh]; simp; omega
 ·cases e
  have hsh:=V0m g h15
  refine ⟨fun h=>?_,fun h=>?_,fun h=>?_,fun _=>⟨g,_,hg,h15,rfl,rfl,P⟩,?_,?_,?_,?_⟩
  ·rw [hsh] at h; simp at h
  ·rw [hsh] at h; simp at h
  ·rw [hsh] at h; simp at h
  ·rw [hsh,V0o g h15]; simp
  ·rw [hsh,V0q g h15]; simp
  ·rw [hsh]; simp; omega
  ·rw [hsh]; simp; omega
theorem V0v (ih:V08 s n (tsz (⟨10,N,ty,ks⟩:K00))) (h:tOk (gN s.fSize true) (yN s.fSize true) ctx.length ⟨10,N,ty,ks⟩=true) (hc:∀ q ∈ ctx,TyS s q) (hb:ctx.length + 2 * tsz (⟨10,N,ty,ks⟩:K00) ≤ 1000000):∃ x y,Kzr s n ctx ⟨10,N,ty,ks⟩ x y:=by
 obtain ⟨k0,k1,rfl,p0,p1⟩:=nd2 h (Nat.le_refl _) rfl
 have hz:=Kwb 10 N ty k0 k1
 obtain ⟨x0,y0,r0⟩:=ih k0 ctx p0 hc (by omega)
 obtain ⟨x1,y1,r1⟩:=ih k1 ctx p1 hc (by omega)
 by_cases f0:x0.ffault=0
 rotate_left
 ·exact V0a (by decide) (by decide) (by decide) hb r0 f0
 obtain ⟨g0,q0,a,na,la,ba⟩:=r0.gd f0
 obtain ⟨c0,t0,ht0,hn0,hz0⟩:=V0d hs g0
 have L0:=Ky4 g0
 have e0:Kea (s,ctx,⟨10,N,ty,[k0,k1]⟩,0)=some x0:=Kzs (i:=0) rfl r0 f0
 have C:=V0u hs g0 ht0
 have i0:idx x0.fty 0=some c0:=by rw [ht0]; rfl
 by_cases z0:(Kpw c0).1=3
 rotate_left
 ·have w0:Kpp c0=false:=by cases h:Kpp c0 with | true=>exact absurd (C.arrB.1 h) z0 | false=>rfl
  refine Kzr.bad (f:=6) (p:=[]) ?_ (Kyx (by omega) (Kzv (m:=[]) rfl (V04 (by decide)) r0 (by simp; omega) f0 (by rw [ht0,Kz4,if_neg z0]) (by decide))) (by decide) (by simp; omega)
  rw [Ke8.eq_def]
  simp [e0,f0,i0,Kps,w0,Kdi]
 obtain ⟨g,p,q,hg,h15,hcg,hq,P⟩:=C.arr z0
 have w0:Kpp c0=true:=C.arrB.2 z0
 have o0:=Kzx (out:=[]) (nd:=[]) (us:=[]) (w:=0) (t:=⟨10,N,ty,[k0,k1]⟩) (m:=[]) rfl (V04 (by decide)) r0 (by simp; omega) f0 (by rw [ht0,Kz4,if_pos z0]) (Kz0 (by decide)) na (by simp <;> omega) (by simp) (by simp) (by simp) (by simp)
 have m1:Kym ⟨10,N,ty,[k0,k1]⟩ [y0] 1=some []:=V06 (by decide) (Kzy (by decide) rfl)
 by_cases f1:x1.ffault=0
 rotate_left
 ·have e1:Kea (s,ctx,⟨10,N,ty,[k0,k1]⟩,1)=some ⟨[],[],x1.ffault,1 :: x1.fpath⟩:=Kzt (i:=1) rfl r1 (by omega) f1
  refine Kzr.bad (f:=x1.ffault) (p:=1 :: x1.fpath) ?_ (Kyx (by omega) (o0.trans (Kzu (m:=[]) rfl m1 r1 (by omega) (by simp; omega) f1))) f1 (by have:=r1.pl; simp; omega)
  rw [Ke8.eq_def]
  simp [e0,f0,i0,Kps,w0,e1,f1]
 obtain ⟨g1,q1,b,nb,lb,bb⟩:=r1.gd f1
 obtain ⟨c1,t1,ht1,hn1,hz1⟩:=V0d hs g1
 have L1:=Ky4 g1
 have e1:Kea (s,ctx,⟨10,N,ty,[k0,k1]⟩,1)=some x1:=Kzs (i:=1) rfl r1 f1
 have hp0:Kd6 (x0.fty,0)=some p:=by rw [hq,hcg]; exact P.p0
 have hp1:Kd6 (x0.fty,1)=some q:=by rw [hq,hcg]; exact P.p1
 have hpp:Kng y0.fty=some [p,q]:=by rw [r0.ty,hq,hcg]; exact P.pp
 have Lp:=Ky4 P.ya
 have Lq:=Ky4 P.yb
 have hsm:=Kuy x1.fty p (by omega)
 have hsi:=Kv0 x1.fty p (by omega)
 have ha:Kys ⟨10,N,ty,[k0,k1]⟩ [y0] 1 y1=some (!(x1.fty == p)):=by
  unfold Kys
  rw [if_pos (show ((10:Int) == 10)=true by decide),if_pos (by decide),Kz9,bs,hpp,bs,Kz9,bs,r1.ty,hsi,bs]
 by_cases hqq:x1.fty=p
 rotate_left
 ·rw [show (x1.fty == p)=false from beq_eq_false_iff_ne.2 hqq] at hsm ha
  refine Kzr.bad (f:=3) (p:=[]) ?_ (Kyx (by omega) (o0.trans (Kzw (m:=[]) rfl m1 r1 (by simp; omega) f1 (by rw [ht1]; exact Kz1 (.inr (by decide))) ha))) (by decide) (by simp; omega)
  rw [Ke8.eq_def]
  simp [e0,f0,i0,Kps,w0,e1,f1,hp0,hsm,Kdi]
 rw [show (x1.fty == p)=true from beq_iff_eq.2 hqq] at hsm ha
 have o1:=Kzx (out:=[y0]) (nd:=[Kwq a]) (us:=[Kwq []]) (w:=1) (t:=⟨10,N,ty,[k0,k1]⟩) (m:=[]) rfl m1 r1 (by simp; omega) f1 (by rw [ht1]; exact Kz1 (.inr (by decide))) ha nb (by simp <;> omega) (by simp) (by simp) (by simp) (by simp)
 have hf:=Kzl (N:=N) (ty:=ty) (ks:=[k0,k1]) (ctx:=ctx) (us:=[Kwq [],Kwq []]) (z:=Kwq (List.replicate ctx.length 0)) (y0:=y0) (y1:=y1) hs hg (p:=p) (q:=q) (by rw [r0.ty,hq,hcg]) P ba bb (by omega) (by omega)
 have im:=V09 (q:=q) (ns:=Kx3 s n a (Kx4 s n g b)) (kids:=[y0,y1]) Lq (Kyy (p0:=⟨s⟩) (t:=⟨10,N,ty,[k0,k1]⟩) (ctx:=ctx) (by omega) (o0.trans (o1.trans (Kyp (Nat.le_refl _)))) hf)
 have lsc:(Kx4 s n g b).length=ctx.length:=by unfold Kx4; rw [List.length_map]; exact lb
 refine Kzr.good (q:=q) (ns:=Kx3 s n a (Kx4 s n g b)) (kids:=[y0,y1]) ?_ im (by omega) P.yb (by unfold Kx3; rw [List.length_zipWith]; omega) (Kx9 hs ba (Kxa hs hg bb)) rfl (kd2 (Kzq.mk' (Kzy (by decide) rfl) r0 f0 (fun _ h=>by cases h) rfl) (Kzq.mk' (Kzy (by decide) rfl) r1 f1 (fun _ h=>by cases h) rfl))
 have hgr:Kd9 c0=some (g:Int):=by rw [hcg]; exact V0r g h15
 rw [Ke8.eq_def]
 simp [e0,f0,i0,Kps,w0,e1,f1,hp0,hp1,hsm,hgr,na,nb,Kxf hs g hg a b ba bb (by omega) (by omega)]
theorem V0w (ih:V08 s n (tsz (⟨5,N,ty,ks⟩:K00))) (h:tOk (gN s.fSize true) (yN s.fSize true) ctx.length ⟨5,N,ty,ks⟩=true) (hc:∀ q ∈ ctx,TyS s q) (hb:ctx.length + 2 * tsz (⟨5,N,ty,ks⟩:K00) ≤ 1000000):∃ x y,Kzr s n ctx ⟨5,N,ty,ks⟩ x y:=by
 obtain ⟨k0,k1,rfl,p0,p1⟩:=nd2 h (Nat.le_refl _) rfl
 have hz:=Kwb 5 N ty k0 k1
 obtain ⟨g,hN,hg⟩:=Kyg hs (Kyi h rfl)
 simp only at hN
 subst hN
 obtain ⟨x0,y0,r0⟩:=ih k0 ctx p0 hc (by omega)
 by_cases f0:x0.ffault=0
 rotate_left
 ·exact V0a (by decide) (by decide) (by decide) hb r0 f0
 obtain ⟨g0,q0,a,na,la,ba⟩:=r0.gd f0
 obtain ⟨c0,t0,ht0,hn0,hz0⟩:=V0d hs g0
 have L0:=Ky4 g0
 have e0:Kea (s,ctx,⟨5,(g:Int),ty,[k0,k1]⟩,0)=some x0:=Kzs (i:=0) rfl r0 f0
 have C:=V0u hs g0 ht0
 have i0:idx x0.fty 0=some c0:=by rw [ht0]; rfl
 by_cases z0:(Kpw c0).1=1
 rotate_left
 ·have w0:c0 ≠ 1:=fun h=>z0 (C.one.1 h)
  refine Kzr.bad (f:=4) (p:=[]) ?_ (Kyx (by omega) (Kzv (m:=[]) rfl (V04 (by decide)) r0 (by simp; omega) f0 (by rw [ht0,Kz5 hs hg,if_neg z0]) (by decide))) (by decide) (by simp; omega)
  rw [Ke8.eq_def]
  simp [e0,f0,i0,Ke9.eq_def,w0,Kdi]
 obtain ⟨p,q,hcg,hq,P⟩:=C.pair z0
 have hle:=sLe hs.tab (Kwx hs) hg
 cases hl:le s n 1 g with
 | false =>
  have hl2:Ka2 (s,1,(g:Int))=some false:=by rw [← hl]; exact hle
  refine Kzr.bad (f:=8) (p:=[]) ?_ (Kyx (by omega) (Kzv (m:=[]) rfl (V04 (by decide)) r0 (by simp; omega) f0 (by rw [ht0,Kz5 hs hg,if_pos z0,hl]; rfl) (by decide))) (by decide) (by simp; omega)
  rw [Ke8.eq_def]
  simp [e0,f0,i0,Ke9.eq_def,hcg,hl2,Kdi]
 | true =>
 have hl2:Ka2 (s,1,(g:Int))=some true:=by rw [← hl]; exact hle
 have o0:=Kzx (out:=[]) (nd:=[]) (us:=[]) (w:=0) (t:=⟨5,(g:Int),ty,[k0,k1]⟩) (m:=[]) rfl (V04 (by decide)) r0 (by simp; omega) f0 (by rw [ht0,Kz5 hs hg,if_pos z0,hl]; rfl) (Kyz (show (5:Int) ≠ 10 by decide)) na (by simp <;> omega) (by simp) (by simp) (by simp) (by simp)
 have hp0:Kd6 (x0.fty,0)=some p:=by rw [hq,hcg]; exact P.p0
 have hp1:Kd6 (x0.fty,1)=some q:=by rw [hq,hcg]; exact P.p1
 have ad:Knu (⟨5,(g:Int),ty,[k0,k1]⟩,((1:Nat):Int),y0.fty)=some [q,p]:=by rw [r0.ty,hq,hcg]; exact V00 P
 have hm':∀ z ∈ [q,p],TyS s z:=fun z hz=>by simp at hz; rcases hz with rfl | rfl; exact P.yb; exact P.ya
 have m1:Kym ⟨5,(g:Int),ty,[k0,k1]⟩ [y0] 1=some [q,p]:=V06 (by decide) ad
 have p1':Kyh s ([q,p] ++ ctx).length k1 (tsz (⟨5,(g:Int),ty,[k0,k1]⟩:K00)):=by
  have e:([q,p] ++ ctx).length=ctx.length + Kr3 5 1:=by simp [Kr3]
  rw [e]; exact p1
 obtain ⟨x1,y1,r1⟩:=ih k1 ([q,p] ++ ctx) p1' (fun z hz=>by rcases List.mem_append.1 hz with hz | hz; exact hm' z hz; exact hc z hz) (by simp; omega)
 have hwc:=Kxt ctx [q,p] (by simp; omega)
 by_cases f1:x1.ffault=0
 rotate_left
 ·have e1:Kea (s,q :: p :: ctx,⟨5,(g:Int),ty,[k0,k1]⟩,1)=some ⟨[],[],x1.ffault,1 :: x1.fpath⟩:=Kzt (i:=1) rfl r1 (by omega) f1
  refine Kzr.bad (f:=x1.ffault) (p:=1 :: x1.fpath) ?_ (Kyx (by omega) (o0.trans (Kzu (m:=[q,p]) rfl m1 r1 (by omega) (by simp; omega) f1))) f1 (by have:=r1.pl; simp; omega)
  rw [Ke8.eq_def]
  simp [e0,f0,i0,Ke9.eq_def,hcg,hl2,hp0,hp1,hwc,e1,f1]
 obtain ⟨g1,q1,b,nb,lb,bb⟩:=r1.gd f1
 obtain ⟨c1,t1,ht1,hn1,hz1⟩:=V0d hs g1
 have L1:=Ky4 g1
 have e1:Kea (s,q :: p :: ctx,⟨5,(g:Int),ty,[k0,k1]⟩,1)=some x1:=Kzs (i:=1) rfl r1 f1
 have lb':b.length=ctx.length + 2:=by rw [lb]; simp
 obtain ⟨u0,u1,b',rfl⟩:∃ u0 u1 b',b=u0 :: u1 :: b':=by match b,lb' with | u0 :: u1 :: b',_=>exact ⟨u0,u1,b',rfl⟩ | [_],h=>simp at h | [],h=>simp at h
 obtain ⟨hu0,bb1⟩:=Kx7 bb
 obtain ⟨hu1,bb'⟩:=Kx7 bb1
 have o1:=Kzx (out:=[y0]) (nd:=[Kwq a]) (us:=[Kwq []]) (w:=1) (t:=⟨5,(g:Int),ty,[k0,k1]⟩) (m:=[q,p]) rfl m1 r1 (by simp; omega) f1 (by rw [ht1]; exact Kz1 (.inr (by decide))) (Kyz (show (5:Int) ≠ 10 by decide)) nb (by simp <;> omega) (by simp) (by simp) (by simp) (by simp)
 simp only [List.length_cons,List.length_nil,Nat.zero_add,List.drop_succ_cons,List.drop_zero,List.take_succ_cons,List.take_zero,List.nil_append] at o1
 have hl0:=o0.trans (o1.trans (Kyp (Nat.le_refl _)))
 have lbc:b'.length=ctx.length:=by simp at lb'; omega
 have i1:idx x1.fneeds 0=some (u0:Int):=by rw [nb]; rfl
 have hcut:cut x1.fneeds (some (2:Int)) none none=some (Kwq b'):=by
  rw [nb]
  have:=Kyr (l:=Kwq (u0 :: u1 :: b')) (m:=2) (by simp [Kwq])
  exact this
 have hcp:=Ks2 (Kwq b') (by rw [Kwr]; omega)
 have i2:idx x1.fneeds 1=some (u1:Int):=by rw [nb]; rfl
 have hle0:=sLe hs.tab hu0 hg
 have hle1:=sLe hs.tab hu1 hg
 have hf:=Kzm (ty:=ty) (ks:=[k0,k1]) (ctx:=ctx) (z:=Kwq (List.replicate ctx.length 0)) (y0:=y0) (y1:=y1) (us':=Kwq []) (u:=[u0,u1]) hs hg (fun x hx=>by simp at hx; rcases hx with rfl | rfl; exact hu0; exact hu1) (by simp) ba bb' (by omega) (by omega) (by rw [r1.ty]; omega)
 simp only [List.all_cons,List.all_nil,Bool.and_true] at hf
 have es:=e1
 cases hal:(le s n u0 g && le s n u1 g) with
 | false =>
  rw [hal,if_neg (by decide)] at hf
  refine Kzr.bad (f:=9) (p:=[]) ?_ (Kyy (by omega) hl0 hf) (by decide) (by simp; omega)
  rw [Ke8.eq_def]
  simp [e0,f0,i0,Ke9.eq_def,hcg,hl2,hp0,hp1,hwc,e1,f1,i1,i2,hcut,hcp,hle0,hle1,Kdi]
  cases q1:le s n u1 g with
  | false=>simp
  | true=>rw [q1,Bool.and_true] at hal; simp [hal]
 | true =>
  rw [hal,if_pos rfl] at hf
  have im:=V09 (q:=y1.fty) (ns:=Kx3 s n (Kx4 s n g a) b') (kids:=[y0,y1]) (by rw [r1.ty]; omega) (Kyy (by omega) hl0 hf)
  rw [r1.ty] at im
  have lsc:(Kx4 s n g a).length=ctx.length:=by unfold Kx4; rw [List.length_map]; exact la
  have hsc:=Kxa hs hg ba
  have hz0:=Kxd hs hsc
  rw [lsc] at hz0
  have hsum:=Kxf hs g hg (List.replicate ctx.length 0) a (fun x hx=>by rw [List.eq_of_mem_replicate hx]; exact Kwy hs) ba (by simp; omega) (by simp [la])
  rw [hz0] at hsum
  have hs2:=Kxg hs (Kx4 s n g a) b' hsc bb' (by omega) (by omega)
  refine Kzr.good (q:=x1.fty) (ns:=Kx3 s n (Kx4 s n g a) b') (kids:=[y0,y1]) ?_ im (by omega) g1 (by unfold Kx3; rw [List.length_zipWith]; omega) (Kx9 hs hsc bb') rfl (kd2 (Kzq.mk' (Kzy (by decide) rfl) r0 f0 (fun _ h=>by cases h) rfl) (Kzq.mk' ad r1 f1 hm' rfl))
  rw [Ke8.eq_def]
  rw [Bool.and_eq_true] at hal
  simp [e0,f0,i0,Ke9.eq_def,hcg,hl2,hp0,hp1,hwc,e1,f1,i1,i2,hcut,hcp,hle0,hle1,hal.1,hal.2,na,Kxs ctx.length (by omega),hsum,hs2]
theorem V0x (ih:V08 s n (tsz (⟨12,N,ty,ks⟩:K00))) (h:tOk (gN s.fSize true) (yN s.fSize true) ctx.length ⟨12,N,ty,ks⟩=true) (hc:∀ q ∈ ctx,TyS s q) (hb:ctx.length + 2 * tsz (⟨12,N,ty,ks⟩:K00) ≤ 1000000):∃ x y,Kzr s n ctx ⟨12,N,ty,ks⟩ x y:=by
 obtain ⟨k0,k1,rfl,p0,p1⟩:=nd2 h (Nat.le_refl _) rfl
 have hz:=Kwb 12 N ty k0 k1
 obtain ⟨g,hN,hg⟩:=Kyg hs (Kyi h rfl)
 simp only at hN
 subst hN
 obtain ⟨x0,y0,r0⟩:=ih k0 ctx p0 hc (by omega)
 by_cases f0:x0.ffault=0
 rotate_left
 ·exact V0a (by decide) (by decide) (by decide) hb r0 f0
 obtain ⟨g0,q0,a,na,la,ba⟩:=r0.gd f0
 obtain ⟨c0,t0,ht0,hn0,hz0⟩:=V0d hs g0
 have L0:=Ky4 g0
 have e0:Kea (s,ctx,⟨12,(g:Int),ty,[k0,k1]⟩,0)=some x0:=Kzs (i:=0) rfl r0 f0
 have C:=V0u hs g0 ht0
 have i0:idx x0.fty 0=some c0:=by rw [ht0]; rfl
 by_cases z0:(Kpw c0).1=4
 rotate_left
 ·have w0:Kpq c0=false:=by cases h:Kpq c0 with | true=>exact absurd (C.boxB.1 h) z0 | false=>rfl
  refine Kzr.bad (f:=7) (p:=[]) ?_ (Kyx (by omega) (Kzv (m:=[]) rfl (V04 (by decide)) r0 (by simp; omega) f0 (by rw [ht0,Kz7 hs hg,if_neg z0]) (by decide))) (by decide) (by simp; omega)
  rw [Ke8.eq_def]
  simp [e0,f0,i0,Ke9.eq_def,Kpt,w0,Kdi]
 obtain ⟨m,p,hm,h15,hcg,hq,P⟩:=C.box z0
 have w0:Kpq c0=true:=C.boxB.2 z0
 have hle:=sLe hs.tab (Kwx hs) hg
 cases hl:le s n 1 g with
 | false =>
  have hl2:Ka2 (s,1,(g:Int))=some false:=by rw [← hl]; exact hle
  refine Kzr.bad (f:=8) (p:=[]) ?_ (Kyx (by omega) (Kzv (m:=[]) rfl (V04 (by decide)) r0 (by simp; omega) f0 (by rw [ht0,Kz7 hs hg,if_pos z0,hl]; rfl) (by decide))) (by decide) (by simp; omega)
  rw [Ke8.eq_def]
  simp [e0,f0,i0,Ke9.eq_def,Kpt,w0,hl2,Kdi]
 | true =>
 have hl2:Ka2 (s,1,(g:Int))=some true:=by rw [← hl]; exact hle
 have o0:=Kzx (out:=[]) (nd:=[]) (us:=[]) (w:=0) (t:=⟨12,(g:Int),ty,[k0,k1]⟩) (m:=[]) rfl (V04 (by decide)) r0 (by simp; omega) f0 (by rw [ht0,Kz7 hs hg,if_pos z0,hl]; rfl) (Kyz (show (12:Int) ≠ 10 by decide)) na (by simp <;> omega) (by simp) (by simp) (by simp) (by simp)
 have hp0:Kd6 (x0.fty,0)=some p:=by rw [hq,hcg]; exact P.p0
 have ad:Knu (⟨12,(g:Int),ty,[k0,k1]⟩,((1:Nat):Int),y0.fty)=some [p]:=by rw [r0.ty,hq,hcg]; exact V03 P
 have hm':∀ z ∈ [p],TyS s z:=fun z hz=>by simp at hz; rw [hz]; exact P.ya
 have hgr:Kd9 c0=some (m:Int):=by rw [hcg]; exact V0s m h15
 have m1:Kym ⟨12,(g:Int),ty,[k0,k1]⟩ [y0] 1=some [p]:=V06 (by decide) ad
 have p1':Kyh s ([p] ++ ctx).length k1 (tsz (⟨12,(g:Int),ty,[k0,k1]⟩:K00)):=by
  have e:([p] ++ ctx).length=ctx.length + Kr3 12 1:=by simp [Kr3]
  rw [e]; exact p1
 obtain ⟨x1,y1,r1⟩:=ih k1 ([p] ++ ctx) p1' (fun z hz=>by rcases List.mem_append.1 hz with hz | hz; exact hm' z hz; exact hc z hz) (by simp; omega)
 have hwc:=Kxt ctx [p] (by simp; omega)
 by_cases f1:x1.ffault=0
 rotate_left
 ·have e1:Kea (s,p :: ctx,⟨12,(g:Int),ty,[k0,k1]⟩,1)=some ⟨[],[],x1.ffault,1 :: x1.fpath⟩:=Kzt (i:=1) rfl r1 (by omega) f1
  refine Kzr.bad (f:=x1.ffault) (p:=1 :: x1.fpath) ?_ (Kyx (by omega) (o0.trans (Kzu (m:=[p]) rfl m1 r1 (by omega) (by simp; omega) f1))) f1 (by have:=r1.pl; simp; omega)
  rw [Ke8.eq_def]
  simp [e0,f0,i0,Ke9.eq_def,Kpt,w0,hl2,hp0,hwc,e1,f1]
 obtain ⟨g1,q1,b,nb,lb,bb⟩:=r1.gd f1
 obtain ⟨c1,t1,ht1,hn1,hz1⟩:=V0d hs g1
 have L1:=Ky4 g1
 have e1:Kea (s,p :: ctx,⟨12,(g:Int),ty,[k0,k1]⟩,1)=some x1:=Kzs (i:=1) rfl r1 f1
 have lb':b.length=ctx.length + 1:=by rw [lb]; simp
 obtain ⟨u0,b',rfl⟩:∃ u0 b',b=u0 :: b':=by match b,lb' with | u0 :: b',_=>exact ⟨u0,b',rfl⟩ | [],h=>simp at h
 obtain ⟨hu0,bb'⟩:=Kx7 bb
 have o1:=Kzx (out:=[y0]) (nd:=[Kwq a]) (us:=[Kwq []]) (w:=1) (t:=⟨12,(g:Int),ty,[k0,k1]⟩) (m:=[p]) rfl m1 r1 (by simp; omega) f1 (by rw [ht1]; exact Kz1 (.inr (by decide))) (Kyz (show (12:Int) ≠ 10 by decide)) nb (by simp <;> omega) (by simp) (by simp) (by simp) (by simp)
 simp only [List.length_cons,List.length_nil,Nat.zero_add,List.drop_succ_cons,List.drop_zero,List.take_succ_cons,List.take_zero,List.nil_append] at o1
 have hl0:=o0.trans (o1.trans (Kyp (Nat.le_refl _)))
 have lbc:b'.length=ctx.length:=by simp at lb'; omega
 have i1:idx x1.fneeds 0=some (u0:Int):=by rw [nb]; rfl
 have hcut:cut x1.fneeds (some (1:Int)) none none=some (Kwq b'):=by
  rw [nb]
  have:=Kyr (l:=Kwq (u0 :: b')) (m:=1) (by simp [Kwq])
  exact this
 have hcp:=Ks2 (Kwq b') (by rw [Kwr]; omega)
 have hmul:=Kp0 hs.tab hg hm
 have htm:=Kov hs.tab hg hm
 have hle0:=sLe hs.tab hu0 htm
 have hf:=Kzn (ty:=ty) (ks:=[k0,k1]) (ctx:=ctx) (z:=Kwq (List.replicate ctx.length 0)) (y0:=y0) (y1:=y1) (us':=Kwq []) (u:=[u0]) hs hg hm (p:=p) (by rw [r0.ty,hq,hcg]) (fun x hx=>by simp at hx; rw [hx]; exact hu0) (by simp) ba bb' (by omega) (by omega) (by rw [r1.ty]; omega)
 simp only [List.all_cons,List.all_nil,Bool.and_true] at hf
 have es:=e1
 cases hal:(le s n u0 (ti s n g m)) with
 | false =>
  rw [hal,if_neg (by decide)] at hf
  refine Kzr.bad (f:=9) (p:=[]) ?_ (Kyy (by omega) hl0 hf) (by decide) (by simp; omega)
  rw [Ke8.eq_def]
  simp [e0,f0,i0,Ke9.eq_def,Kpt,w0,hl2,hp0,hwc,e1,f1,i1,hcut,hcp,hgr,hmul,hle0,hal,Kdi]
 | true =>
  rw [hal,if_pos rfl] at hf
  have im:=V09 (q:=y1.fty) (ns:=Kx3 s n (Kx4 s n g a) b') (kids:=[y0,y1]) (by rw [r1.ty]; omega) (Kyy (by omega) hl0 hf)
  rw [r1.ty] at im
  have lsc:(Kx4 s n g a).length=ctx.length:=by unfold Kx4; rw [List.length_map]; exact la
  have hsc:=Kxa hs hg ba
  have hz0:=Kxd hs hsc
  rw [lsc] at hz0
  have hsum:=Kxf hs g hg (List.replicate ctx.length 0) a (fun x hx=>by rw [List.eq_of_mem_replicate hx]; exact Kwy hs) ba (by simp; omega) (by simp [la])
  rw [hz0] at hsum
  have hs2:=Kxg hs (Kx4 s n g a) b' hsc bb' (by omega) (by omega)
  refine Kzr.good (q:=x1.fty) (ns:=Kx3 s n (Kx4 s n g a) b') (kids:=[y0,y1]) ?_ im (by omega) g1 (by unfold Kx3; rw [List.length_zipWith]; omega) (Kx9 hs hsc bb') rfl (kd2 (Kzq.mk' (Kzy (by decide) rfl) r0 f0 (fun _ h=>by cases h) rfl) (Kzq.mk' ad r1 f1 hm' rfl))
  rw [Ke8.eq_def]
  simp [e0,f0,i0,Ke9.eq_def,Kpt,w0,hl2,hp0,hwc,e1,f1,i1,hcut,hcp,hgr,hmul,hle0,hal,na,Kxs ctx.length (by omega),hsum,hs2]
theorem V0y (ih:V08 s n (tsz (⟨8,N,ty,ks⟩:K00))) (h:tOk (gN s.fSize true) (yN s.fSize true) ctx.length ⟨8,N,ty,ks⟩=true) (hc:∀ q ∈ ctx,TyS s q) (hb:ctx.length + 2 * tsz (⟨8,N,ty,ks⟩:K00) ≤ 1000000):∃ x y,Kzr s n ctx ⟨8,N,ty,ks⟩ x y:=by
 obtain ⟨k0,k1,k2,rfl,p0,p1,p2⟩:=nd3 h (Nat.le_refl _) rfl
 have hz:=Kwc 8 N ty k0 k1 k2
 obtain ⟨g,hN,hg⟩:=Kyg hs (Kyi h rfl)
 simp only at hN
 subst hN
 obtain ⟨x0,y0,r0⟩:=ih k0 ctx p0 hc (by omega)
 by_cases f0:x0.ffault=0
 rotate_left
 ·exact V0a (by decide) (by decide) (by decide) hb r0 f0
 obtain ⟨g0,q0,a,na,la,ba⟩:=r0.gd f0
 obtain ⟨c0,t0,ht0,hn0,hz0⟩:=V0d hs g0
 have L0:=Ky4 g0
 have e0:Kea (s,ctx,⟨8,(g:Int),ty,[k0,k1,k2]⟩,0)=some x0:=Kzs (i:=0) rfl r0 f0
 have C:=V0u hs g0 ht0
 have i0:idx x0.fty 0=some c0:=by rw [ht0]; rfl
 by_cases z0:(Kpw c0).1=2
 rotate_left
 ·have w0:c0 ≠ 2:=fun h=>z0 (C.two.1 h)
  refine Kzr.bad (f:=5) (p:=[]) ?_ (Kyx (by omega) (Kzv (m:=[]) rfl (V04 (by decide)) r0 (by simp; omega) f0 (by rw [ht0,Kz6 hs hg,if_neg z0]) (by decide))) (by decide) (by simp; omega)
  rw [Ke8.eq_def]
  simp [e0,f0,i0,Ke9.eq_def,w0,Kdi]
 obtain ⟨p,q,hcg,hq,P⟩:=C.sum z0
 have hle:=sLe hs.tab (Kwx hs) hg
 cases hl:le s n 1 g with
 | false =>
  have hl2:Ka2 (s,1,(g:Int))=some false:=by rw [← hl]; exact hle
  refine Kzr.bad (f:=8) (p:=[]) ?_ (Kyx (by omega) (Kzv (m:=[]) rfl (V04 (by decide)) r0 (by simp; omega) f0 (by rw [ht0,Kz6 hs hg,if_pos z0,hl]; rfl) (by decide))) (by decide) (by simp; omega)
  rw [Ke8.eq_def]
  simp [e0,f0,i0,Ke9.eq_def,hcg,hl2,Kdi]
 | true =>
 have hl2:Ka2 (s,1,(g:Int))=some true:=by rw [← hl]; exact hle
 have o0:=Kzx (out:=[]) (nd:=[]) (us:=[]) (w:=0) (t:=⟨8,(g:Int),ty,[k0,k1,k2]⟩) (m:=[]) rfl (V04 (by decide)) r0 (by simp; omega) f0 (by rw [ht0,Kz6 hs hg,if_pos z0,hl]; rfl) (Kyz (show (8:Int) ≠ 10 by decide)) na (by simp <;> omega) (by simp) (by simp) (by simp) (by simp)
 have hp0:Kd6 (x0.fty,0)=some p:=by rw [hq,hcg]; exact P.p0
 have hp1:Kd6 (x0.fty,1)=some q:=by rw [hq,hcg]; exact P.p1
 have ad1:Knu (⟨8,(g:Int),ty,[k0,k1,k2]⟩,((1:Nat):Int),y0.fty)=some [p]:=by rw [r0.ty,hq,hcg]; exact V01 P
 have ad2:Knu (⟨8,(g:Int),ty,[k0,k1,k2]⟩,((2:Nat):Int),y0.fty)=some [q]:=by rw [r0.ty,hq,hcg]; exact V02 P
 have hm1:∀ z ∈ [p],TyS s z:=fun z hz=>by simp at hz; rw [hz]; exact P.ya
 have hm2:∀ z ∈ [q],TyS s z:=fun z hz=>by simp at hz; rw [hz]; exact P.yb
 have m1:Kym ⟨8,(g:Int),ty,[k0,k1,k2]⟩ [y0] 1=some [p]:=V06 (by decide) ad1
 have p1':Kyh s ([p] ++ ctx).length k1 (tsz (⟨8,(g:Int),ty,[k0,k1,k2]⟩:K00)):=by
  have e:([p] ++ ctx).length=ctx.length + Kr3 8 1:=by simp [Kr3]
  rw [e]; exact p1
 obtain ⟨x1,y1,r1⟩:=ih k1 ([p] ++ ctx) p1' (fun z hz=>by rcases List.mem_append.1 hz with hz | hz; exact hm1 z hz; exact hc z hz) (by simp; omega)
 have hw1:=Kxt ctx [p] (by simp; omega)
 by_cases f1:x1.ffault=0
 rotate_left
 ·have e1:Kea (s,p :: ctx,⟨8,(g:Int),ty,[k0,k1,k2]⟩,1)=some ⟨[],[],x1.ffault,1 :: x1.fpath⟩:=Kzt (i:=1) rfl r1 (by omega) f1
  refine Kzr.bad (f:=x1.ffault) (p:=1 :: x1.fpath) ?_ (Kyx (by omega) (o0.trans (Kzu (m:=[p]) rfl m1 r1 (by omega) (by simp; omega) f1))) f1 (by have:=r1.pl; simp; omega)
  rw [Ke8.eq_def]
  simp [e0,f0,i0,Ke9.eq_def,hcg,hl2,hp0,hp1,hw1,e1,f1]
 obtain ⟨g1,q1,b,nb,lb,bb⟩:=r1.gd f1
 obtain ⟨c1,t1,ht1,hn1,hz1⟩:=V0d hs g1
 have L1:=Ky4 g1
 have e1:Kea (s,p :: ctx,⟨8,(g:Int),ty,[k0,k1,k2]⟩,1)=some x1:=Kzs (i:=1) rfl r1 f1
 have lb':b.length=ctx.length + 1:=by rw [lb]; simp
 obtain ⟨u0,b',rfl⟩:∃ u0 b',b=u0 :: b':=by match b,lb' with | u0 :: b',_=>exact ⟨u0,b',rfl⟩ | [],h=>simp at h
 obtain ⟨hu0,bb'⟩:=Kx7 bb
 have lbc:b'.length=ctx.length:=by simp at lb'; omega
 have i1:idx x1.fneeds 0=some (u0:Int):=by rw [nb]; rfl
 have hcut1:cut x1.fneeds (some (1:Int)) none none=some (Kwq b'):=by rw [nb]; exact Kug _ _
 have hcp1:=Ks2 (Kwq b') (by rw [Kwr]; omega)
 have o1:=Kzx (out:=[y0]) (nd:=[Kwq a]) (us:=[Kwq []]) (w:=1) (t:=⟨8,(g:Int),ty,[k0,k1,k2]⟩) (m:=[p]) rfl m1 r1 (by simp; omega) f1 (by rw [ht1]; exact Kz1 (.inr (by decide))) (Kyz (show (8:Int) ≠ 10 by decide)) nb (by simp <;> omega) (by simp) (by simp) (by simp) (by simp)
 simp only [List.length_cons,List.length_nil,Nat.zero_add,List.drop_succ_cons,List.drop_zero,List.take_succ_cons,List.take_zero,List.nil_append,List.cons_append] at o1
 have m2:Kym ⟨8,(g:Int),ty,[k0,k1,k2]⟩ [y0,y1] 2=some [q]:=V06 (by decide) ad2
 have p2':Kyh s ([q] ++ ctx).length k2 (tsz (⟨8,(g:Int),ty,[k0,k1,k2]⟩:K00)):=by
  have e:([q] ++ ctx).length=ctx.length + Kr3 8 2:=by simp [Kr3]
  rw [e]; exact p2
 obtain ⟨x2,y2,r2⟩:=ih k2 ([q] ++ ctx) p2' (fun z hz=>by rcases List.mem_append.1 hz with hz | hz; exact hm2 z hz; exact hc z hz) (by simp; omega)
 have hw2:=Kxt ctx [q] (by simp; omega)
 by_cases f2:x2.ffault=0
 rotate_left
 ·have e2:Kea (s,q :: ctx,⟨8,(g:Int),ty,[k0,k1,k2]⟩,2)=some ⟨[],[],x2.ffault,2 :: x2.fpath⟩:=Kzt (i:=2) rfl r2 (by omega) f2
  refine Kzr.bad (f:=x2.ffault) (p:=2 :: x2.fpath) ?_ (Kyx (by omega) (o0.trans (o1.trans (Kzu (m:=[q]) rfl m2 r2 (by omega) (by simp; omega) f2)))) f2 (by have:=r2.pl; simp; omega)
  rw [Ke8.eq_def]
  simp [e0,f0,i0,Ke9.eq_def,hcg,hl2,hp0,hp1,hw1,e1,f1,hcut1,hcp1,hw2,e2,f2]
 obtain ⟨g2,q2,d,nd,ld,bd⟩:=r2.gd f2
 obtain ⟨c2,t2,ht2,hn2,hz2⟩:=V0d hs g2
 have L2:=Ky4 g2
 have e2:Kea (s,q :: ctx,⟨8,(g:Int),ty,[k0,k1,k2]⟩,2)=some x2:=Kzs (i:=2) rfl r2 f2
 have ld':d.length=ctx.length + 1:=by rw [ld]; simp
 obtain ⟨v0,d',rfl⟩:∃ v0 d',d=v0 :: d':=by match d,ld' with | v0 :: d',_=>exact ⟨v0,d',rfl⟩ | [],h=>simp at h
 obtain ⟨hv0,bd'⟩:=Kx7 bd
 have ldc:d'.length=ctx.length:=by simp at ld'; omega
 have i2:idx x2.fneeds 0=some (v0:Int):=by rw [nd]; rfl
 have hcut2:cut x2.fneeds (some (1:Int)) none none=some (Kwq d'):=by rw [nd]; exact Kug _ _
 have o2:=Kzx (out:=[y0,y1]) (nd:=[Kwq a,Kwq b']) (us:=[Kwq [],Kwq [u0]]) (w:=2) (t:=⟨8,(g:Int),ty,[k0,k1,k2]⟩) (m:=[q]) rfl m2 r2 (by simp; omega) f2 (by rw [ht2]; exact Kz1 (.inr (by decide))) (Kyz (show (8:Int) ≠ 10 by decide)) nd (by simp <;> omega) (by simp) (by simp) (by simp) (by simp)
 simp only [List.length_cons,List.length_nil,Nat.zero_add,List.drop_succ_cons,List.drop_zero,List.take_succ_cons,List.take_zero,List.nil_append,List.cons_append] at o2
 have hl0:=o0.trans (o1.trans (o2.trans (Kyp (Nat.le_refl _))))
 have hle0:=sLe hs.tab hu0 hg
 have hle1:=sLe hs.tab hv0 hg
 have hf:=Kzo (ty:=ty) (ks:=[k0,k1,k2]) (ctx:=ctx) (z:=Kwq (List.replicate ctx.length 0)) (y0:=y0) (y1:=y1) (y2:=y2) (us':=Kwq []) (u:=[u0]) (v:=[v0]) hs hg (fun x hx=>by simp at hx; rw [hx]; exact hu0) (by simp) (fun x hx=>by simp at hx; rw [hx]; exact hv0) (by simp) ba bb' bd' (by omega) (by omega) (by omega) (by rw [r2.ty]; omega) (by rw [r1.ty]; omega)
 simp only [List.all_cons,List.all_nil,Bool.and_true] at hf
 rw [r1.ty,r2.ty] at hf
 have hsm:=Kuy x1.fty x2.fty (by omega)
 have hj:=Kxi hs b' d' bb' bd' (by omega) (by omega)
 have lj:(Kx5 s n b' d').length=ctx.length:=by unfold Kx5; rw [List.length_zipWith]; omega
 by_cases hqq:x1.fty=x2.fty
 rotate_left
 ·rw [if_neg hqq] at hf
  rw [show (x1.fty == x2.fty)=false from beq_eq_false_iff_ne.2 hqq] at hsm
  refine Kzr.bad (f:=3) (p:=[]) ?_ (Kyy (by omega) hl0 hf) (by decide) (by simp; omega)
  rw [Ke8.eq_def]
  simp [e0,f0,i0,Ke9.eq_def,hcg,hl2,hp0,hp1,hw1,e1,f1,hcut1,hcp1,hw2,e2,f2,hsm,Kdi]
 rw [if_pos hqq] at hf
 rw [show (x1.fty == x2.fty)=true from beq_iff_eq.2 hqq] at hsm
 by_cases hal:le s n u0 g=true∧le s n v0 g=true
 rotate_left
 ·rw [if_neg hal] at hf
  refine Kzr.bad (f:=9) (p:=[]) ?_ (Kyy (by omega) hl0 hf) (by decide) (by simp; omega)
  rw [Ke8.eq_def]
  simp [e0,f0,i0,Ke9.eq_def,hcg,hl2,hp0,hp1,hw1,e1,f1,hcut1,hcp1,hw2,e2,f2,hsm,i1,i2,hle0,hle1,hcut2,hj,Kdi]
  cases q1:le s n v0 g with
  | false=>simp
  | true =>
   cases q2:le s n u0 g with
   | false=>simp
   | true=>exact absurd ⟨q2,q1⟩ hal
 rw [if_pos hal] at hf
 have im:=V09 (q:=x1.fty) (ns:=Kx3 s n (Kx4 s n g a) (Kx5 s n b' d')) (kids:=[y0,y1,y2]) (by omega) (Kyy (by omega) hl0 hf)
 have lsc:(Kx4 s n g a).length=ctx.length:=by unfold Kx4; rw [List.length_map]; exact la
 have hsc:=Kxa hs hg ba
 have hz0:=Kxd hs hsc
 rw [lsc] at hz0
 have hsum:=Kxf hs g hg (List.replicate ctx.length 0) a (fun x hx=>by rw [List.eq_of_mem_replicate hx]; exact Kwy hs) ba (by simp; omega) (by simp [la])
 rw [hz0] at hsum
 have hs2:=Kxg hs (Kx4 s n g a) (Kx5 s n b' d') hsc (Kxb hs bb' bd') (by omega) (by omega)
 refine Kzr.good (q:=x1.fty) (ns:=Kx3 s n (Kx4 s n g a) (Kx5 s n b' d')) (kids:=[y0,y1,y2]) ?_ im (by omega) g1 (by unfold Kx3; rw [List.length_zipWith]; omega) (Kx9 hs hsc (Kxb hs bb' bd')) rfl (kd3 (Kzq.mk' (Kzy (by decide) rfl) r0 f0 (fun _ h=>by cases h) rfl) (Kzq.mk' ad1 r1 f1 hm1 rfl) (Kzq.mk' ad2 r2 f2 hm2 rfl))
 rw [Ke8.eq_def]
 simp [e0,f0,i0,Ke9.eq_def,hcg,hl2,hp0,hp1,hw1,e1,f1,hcut1,hcp1,hw2,e2,f2,hsm,i1,i2,hle0,hle1,hal.1,hal.2,hcut2,hj,na,Kxs ctx.length (by omega),hsum,hs2]
theorem V0z:∀ (m:Nat) (t:K00) (ctx:List (List Int)),tsz t ≤ m→tOk (gN s.fSize true) (yN s.fSize true) ctx.length t=true→(∀ q ∈ ctx,TyS s q)→ctx.length + 2 * tsz t ≤ 1000000→∃ x y,Kzr s n ctx t x y
 | 0,t,ctx,hm,_,_,_=>by obtain ⟨op,N,ty,ks⟩:=t; rw [tsz] at hm; omega
 | m + 1,t,ctx,hm,h,hc,hb=>by
  have ih:V08 s n (tsz t):=fun k c hk hc hb=>V0z m k c (by have:=hk.sz; omega) hk.ok hc hb
  obtain ⟨op,N,ty,ks⟩:=t
  have hop:=(Krv (Krq h).1).1
  simp only at hop
  rcases Kqx hop with rfl | rfl | rfl | rfl | rfl | rfl | rfl | rfl | rfl | rfl | rfl | rfl | rfl
  ·exact V0b hs rfl h hc hb
  ·exact V0c hs rfl h hb
  ·exact V0j hs ih h hc hb
  ·exact V0k hs ih h hc hb
  ·exact V0i hs ih h hc hb
  ·exact V0w hs ih h hc hb
  ·exact V0e hs ih h hc hb
  ·exact V0f hs ih h hc hb
  ·exact V0y hs ih h hc hb
  ·exact V0h hs ih h hc hb
  ·exact V0v hs ih h hc hb
  ·exact V0g hs ih h hc hb
  ·exact V0x hs ih h hc hb
end
def Gv {α:Type} (x:Option α) (Q:α→Prop):Prop:=∃ a,x=some a∧Q a
theorem Gv.of {α:Type} {a:α} {Q:α→Prop} (h:Q a):Gv (some a) Q:=⟨a,rfl,h⟩
theorem Gv.eq {α:Type} {x:Option α} {a:α} {Q:α→Prop} (e:x=some a) (h:Q a):Gv x Q:=⟨a,e,h⟩
theorem Gv.bind {α β:Type} {x:Option α} {f:α→Option β} {Q:α→Prop} {R:β→Prop} (h:Gv x Q) (hf:∀ a,Q a→Gv (f a) R):Gv (x >>= f) R:=by
 obtain ⟨a,rfl,hq⟩:=h
 exact hf a hq
theorem Gv.mono {α:Type} {x:Option α} {Q R:α→Prop} (h:Gv x Q) (hq:∀ a,Q a→R a):Gv x R:=let ⟨a,e,h⟩:=h; ⟨a,e,hq a h⟩
theorem Gv.ite {α:Type} {b:Bool} {x y:Option α} {Q:α→Prop} (h1:b=true→Gv x Q) (h2:b=false→Gv y Q):Gv (if b=true then x else y) Q:=by
 cases b
 ·exact h2 rfl
 ·exact h1 rfl
structure V10 (c:K01):Prop where
 lo:0 ≤ c.fi
 hi:c.fi ≤ c.fb.length
 ln:c.fb.length ≤ 1048576
 by_:∀ v ∈ c.fb,0 ≤ v∧v ≤ 255
theorem V11 (x:Int):0 ≤ Q2p .and .i64 x 255∧Q2p .and .i64 x 255 ≤ 255:=by
 have h:(BitVec.ofInt 64 x &&& BitVec.ofInt 64 255).toNat ≤ 255:=by
  rw [BitVec.toNat_and]
  exact Nat.le_trans Nat.and_le_right (by decide)
 have e:Q2p .and .i64 x 255=wr (((BitVec.ofInt 64 x &&& BitVec.ofInt 64 255).toNat:Nat):Int):=rfl
 rw [e,Kom (by omega) (by omega)]
 omega
theorem V12 {α:Type} {l:List α} {i:Int} (h0:0 ≤ i) (h:i < l.length):∃ v,idx l i=some v∧v ∈ l:=by
 have hi:i.toNat < l.length:=by omega
 refine ⟨l[i.toNat],?_,List.getElem_mem hi⟩
 unfold idx
 rw [if_pos h0,List.getElem?_eq_getElem hi]
theorem V13 (code:List Int) (hl:code.length ≤ 1048576):∀ (k i:Nat) (h:Int),i + k=code.length→Gv (K82 (code,h,(i:Int))) (fun _=>True):=by
 intro k
 induction k with
 | zero =>
  intro i h hi
  rw [K82.eq_def]
  simp only
  rw [Koq (by omega),if_neg (by decide),bs,if_neg (by decide)]
  exact .of trivial
 | succ k ih =>
  intro i h hi
  rw [K82.eq_def]
  simp only
  rw [Kop (by omega),if_pos rfl,bs]
  refine .ite (fun _=>?_) (fun _=>.of trivial)
  rw [Kon (by omega),bs,Koo (by omega)]
  exact ih (i + 1) _ (by omega)
theorem V14 (code:List Int) (hl:code.length ≤ 1048576) (hb:∀ v ∈ code,0 ≤ v∧v ≤ 255):Gv (K85 code) V10:=by
 unfold K85
 refine Gv.bind (V13 code hl code.length 0 _ (by omega)) (fun h _=>.of ⟨Int.le_refl _,?_,hl,hb⟩)
 simp
theorem V15 {c:K01} (h:V10 c):Gv (K8e c) (fun r=>(0 ≤ r.1∧r.1 ≤ 255)∧V10 r.2):=by
 unfold K8e
 by_cases hi:c.fi < c.fb.length
 ·obtain ⟨v,e,hv⟩:=V12 h.lo hi
  have h3:=h.ln
  have h4:=h.lo
  rw [decide_eq_true hi,if_pos rfl,e,bs,bs]
  refine .of ⟨V11 _,⟨?_,?_,h.ln,h.by_⟩⟩
  ·simp only
   rw [Kom (by omega) (by omega)]; omega
  ·simp only
   rw [Kom (by omega) (by omega)]; omega
 ·rw [decide_eq_false hi,if_neg (by decide),bs]
  exact .of ⟨V11 _,⟨h.lo,h.hi,h.ln,h.by_⟩⟩
def V16 (n:Int) (x:Int):Prop:=(0 < n→0 ≤ x∧x < n)∧(n ≤ 0→x=0)
theorem V17 {c:K01} (h:V10 c) (n:Int):Gv (K8h (c,n)) (fun r=>V16 n r.1∧V10 r.2):=by
 unfold K8h
 simp only
 refine .ite (fun hb=>?_) (fun hb=>?_)
 ·have hb:=of_decide_eq_true hb
  exact .of ⟨⟨fun h=>absurd h (by omega),fun _=>rfl⟩,h⟩
 have hb:=of_decide_eq_false hb
 have tm:∀ x:Int,0 ≤ x→V16 n (Int.tmod x n):=fun x hx=>⟨fun hn=>⟨Int.tmod_nonneg n hx,Int.tmod_lt_of_pos x hn⟩,fun hn=>absurd hn (by omega)⟩
 have ck:chk (n ≠ 0)=some ():=by unfold chk; rw [if_pos (by omega)]
 refine .ite (fun _=>?_) (fun _=>?_)
 ·refine Gv.bind (V15 h) ?_
  rintro ⟨x,c1⟩ ⟨hx,h1⟩
  simp only at hx h1 ⊢
  rw [ck,bs]
  exact .of ⟨tm _ hx.1,h1⟩
 ·refine Gv.bind (V15 h) ?_
  rintro ⟨x,c1⟩ ⟨hx,h1⟩
  simp only at hx h1 ⊢
  refine Gv.bind (V15 h1) ?_
  rintro ⟨y,c2⟩ ⟨hy,h2⟩
  simp only at hy h2 ⊢
  refine Gv.bind (V15 h2) ?_
  rintro ⟨z,c3⟩ ⟨hz,h3⟩
  simp only at hz h3 ⊢
  refine Gv.bind (V15 h3) ?_
  rintro ⟨w,c4⟩ ⟨hw,h4⟩
  simp only at hw h4 ⊢
  rw [ck,bs]
  refine .of ⟨?_,h4⟩
  simp only
  have e1:wr (x * 16777216)=x * 16777216:=Kom (by omega) (by omega)
  have e2:wr (y * 65536)=y * 65536:=Kom (by omega) (by omega)
  have e3:wr (z * 256)=z * 256:=Kom (by omega) (by omega)
  rw [e1,e2,e3,Kom (x:=x * 16777216 + y * 65536) (by omega) (by omega),Kom (x:=x * 16777216 + y * 65536 + z * 256) (by omega) (by omega),Kom (x:=x * 16777216 + y * 65536 + z * 256 + w) (by omega) (by omega)]
  exact tm _ (by omega)
theorem V18 {c:K01} (h:V10 c) (n:Int):Gv (K8k (c,n)) (fun r=>V10 r.2):=by
 unfold K8k
 refine Gv.bind (V17 h n) ?_
 rintro ⟨x,c1⟩ ⟨_,h1⟩
 exact .of h1
theorem V19 {c:K01} (h:V10 c) (l:List Int) (hl:0 < l.length):Gv (Kgv (c,l)) (fun r=>r.1 ∈ l∧V10 r.2):=by
 unfold Kgv
 refine Gv.bind (V17 h _) ?_
 rintro ⟨x,c1⟩ ⟨⟨hx,_⟩,h1⟩
 simp only at hx h1 ⊢
 have:=hx (by omega)
 obtain ⟨v,e,hv⟩:=V12 this.1 this.2
 rw [e,bs]
 exact .of ⟨hv,h1⟩
theorem V1a {c:K01} (h:V10 c):Gv (Kil c) (fun r=>(-9223372036854775808 ≤ r.1∧r.1 ≤ 9223372036854775807)∧V10 r.2):=by
 unfold Kil
 refine Gv.bind (V19 h _ (by decide)) ?_
 rintro ⟨x,c1⟩ ⟨hx,h1⟩
 refine .of ⟨?_,h1⟩
 simp only [List.mem_cons,List.not_mem_nil,or_false] at hx
 simp only
 omega
def V1b (n a b:Nat):Int:=((min (a + b) (n + 1):Nat):Int)
def V1c (n a b:Nat):Int:=((min (a * b) (n + 1):Nat):Int)
def V1d (n:Nat) (bd:Bool) (a b:Nat):Bool:=(a == b) || (b == n + 1) || (bd && decide (a ≤ b))
def V1e (n:Nat) (bd:Bool):K02:=⟨((n + 2:Nat):Int),(List.range' 0 (n + 2)).flatMap (fun a=>(List.range' 0 (n + 2)).map (V1b n a)),(List.range' 0 (n + 2)).flatMap (fun a=>(List.range' 0 (n + 2)).map (V1c n a)),(List.range' 0 (n + 2)).flatMap (fun a=>(List.range' 0 (n + 2)).map (V1d n bd a))⟩
theorem V1f {a b:Nat} (h:a ≤ b):decide ((a:Int) ≤ (b:Int))=true:=decide_eq_true (by omega)
theorem V1g {a b:Nat} (h:b < a):decide ((a:Int) ≤ (b:Int))=false:=decide_eq_false (by omega)
theorem V1h (n a:Nat) (bd:Bool) (hn:n ≤ 14) (ha:a ≤ n + 1):∀ (k b:Nat) (P T:List Int) (B:List Bool),b + k=n + 2→P.length ≤ 1000000→T.length ≤ 1000000→B.length ≤ 1000000→P.length + k ≤ 1000000→T.length + k ≤ 1000000→B.length + k ≤ 1000000 →
  K8r ((n:Int),bd,(a:Int),P,T,B,(b:Int))=some (P ++ (List.range' b k).map (V1b n a),T ++ (List.range' b k).map (V1c n a),B ++ (List.range' b k).map (V1d n bd a)):=by
 intro k
 induction k with
 | zero =>
  intro b P T B hb _ _ _ _ _ _
  rw [K8r.eq_def]
  simp only
  rw [Koo (by omega),V1g (by omega),if_neg (by decide)]
  simp
 | succ k ih =>
  intro b P T B hb h1 h2 h3 h4 h5 h6
  have hab:a * b ≤ 16 * 16:=Nat.mul_le_mul (by omega) (by omega)
  have e2:wr ((a:Int) * (b:Int))=((a * b:Nat):Int):=by
   rw [← Int.natCast_mul,Kom (by omega) (by omega)]
  rw [K8r.eq_def]
  simp only
  rw [Koo (n:=n) (by omega),V1f (by omega),if_pos rfl,Kt2 (by omega) (by omega),Kt3,bs,e2,Kt3,bs,Krs (by simp; omega),bs,Krs (by simp; omega),bs]
  have e3:((if ((a:Int) == (b:Int))=true then Qdw (B.length + [true].length) 1 >>= fun _=>some (B ++ [true]) else if ((b:Int) == ((n + 1:Nat):Int))=true then Qdw (B.length + [true].length) 1 >>= fun _=>some (B ++ [true]) else if bd=true then Qdw (B.length + [decide ((a:Int) ≤ (b:Int))].length) 1 >>= fun _=>some (B ++ [decide ((a:Int) ≤ (b:Int))]) else Qdw (B.length + [false].length) 1 >>= fun _=>some (B ++ [false])):Option (List Bool))=some (B ++ [V1d n bd a b]):=by
   have f:∀ x:Bool,Qdw (B.length + [x].length) 1=some ():=fun x=>Krs (by simp; omega)
   rw [f,f,f,bs,bs,bs,Kp3,Kp3]
   unfold V1d
   by_cases q1:a=b
   ·rw [if_pos (by simp [q1])]; simp [q1]
   ·rw [if_neg (by simp [q1])]
    by_cases q2:b=n + 1
    ·rw [if_pos (by simp [q2])]; simp [q2]
    ·rw [if_neg (by simp [q2])]
     cases bd with
     | false=>simp [q1,q2]
     | true=>simp [q1,q2]
  rw [e3,bs,Koo (by omega),ih (b + 1) _ _ _ (by omega) (by simp; omega) (by simp; omega) (by simp; omega) (by simp; omega) (by simp; omega) (by simp; omega)]
  simp [List.range'_succ,V1b,V1c]
theorem V1i (n:Nat) (bd:Bool) (hn:n ≤ 14):∀ (k a:Nat) (P T:List Int) (B:List Bool),a + k=n + 2→P.length + k * 16 ≤ 10000→T.length + k * 16 ≤ 10000→B.length + k * 16 ≤ 10000 →
  K8v ((n:Int),bd,P,T,B,(a:Int))=some (P ++ (List.range' a k).flatMap (fun a=>(List.range' 0 (n + 2)).map (V1b n a)),T ++ (List.range' a k).flatMap (fun a=>(List.range' 0 (n + 2)).map (V1c n a)),B ++ (List.range' a k).flatMap (fun a=>(List.range' 0 (n + 2)).map (V1d n bd a))):=by
 intro k
 induction k with
 | zero =>
  intro a P T B hb _ _ _
  rw [K8v.eq_def]
  simp only
  rw [Koo (by omega),V1g (by omega),if_neg (by decide)]
  simp
 | succ k ih =>
  intro a P T B hb h1 h2 h3
  rw [K8v.eq_def]
  simp only
  rw [Koo (n:=n) (by omega),V1f (by omega),if_pos rfl,show (0:Int)=((0:Nat):Int) from rfl,V1h n a bd hn (by omega) (n + 2) 0 P T B (by omega) (by omega) (by omega) (by omega) (by omega) (by omega) (by omega),bs]
  simp only
  rw [Koo (by omega),ih (a + 1) _ _ _ (by omega) (by simp; omega) (by simp; omega) (by simp; omega)]
  simp [List.range'_succ,List.flatMap_cons]
theorem V1j (n:Nat) (bd:Bool) (h1:1 ≤ n) (h2:n ≤ 14):K8y ((n:Int),bd)=some (V1e n bd):=by
 unfold K8y
 simp only
 rw [sIn,bs,show inB (n:Int) 1 14=true from by unfold inB; rw [decide_eq_true (by omega),decide_eq_true (by omega)]; rfl,if_pos rfl,show (0:Int)=((0:Nat):Int) from rfl,V1i n bd h2 (n + 2) 0 [] [] [] (by omega) (by simp; omega) (by simp; omega) (by simp; omega),bs]
 simp only
 rw [show wr ((n:Int) + 2)=((n + 2:Nat):Int) from by rw [Kom (by omega) (by omega)]; omega]
 rfl
theorem V1k (n:Nat) (h1:1 ≤ n) (h2:n ≤ 14):K94 (n:Int)=some (V1e n false):=by unfold K94; rw [V1j n false h1 h2]; rfl
theorem V1l (n:Nat) (h1:1 ≤ n) (h2:n ≤ 14):K91 (n:Int)=some (V1e n true):=by unfold K91; rw [V1j n true h1 h2]; rfl
def V1m (n a:Nat):Nat:=(n + 1 - a) % (n + 1)
def V1n (n a b:Nat):Int:=(((n + 1 - max (V1m n a) (V1m n b)) % (n + 1):Nat):Int)
def V1o (n a b:Nat):Int:=(((n + 1 - min (V1m n a) (V1m n b)) % (n + 1):Nat):Int)
def V1p (n a b:Nat):Bool:=decide (V1m n a ≤ V1m n b)
def V1q (n:Nat):K02:=⟨((n + 1:Nat):Int),(List.range' 0 (n + 1)).flatMap (fun a=>(List.range' 0 (n + 1)).map (V1n n a)),(List.range' 0 (n + 1)).flatMap (fun a=>(List.range' 0 (n + 1)).map (V1o n a)),(List.range' 0 (n + 1)).flatMap (fun a=>(List.range' 0 (n + 1)).map (V1p n a))⟩
theorem V1r (a b:Nat):K97 ((a:Int),(b:Int))=some ((max a b:Nat):Int):=by
 unfold K97
 simp only
 by_cases h:b < a
 ·rw [decide_eq_true (by omega),if_pos rfl,Nat.max_eq_left (by omega)]
 ·rw [decide_eq_false (by omega),if_neg (by decide),Nat.max_eq_right (by omega)]
theorem V1s (a b:Nat):Int.tmod (a:Int) (b:Int)=((a % b:Nat):Int):=(Int.ofNat_tmod a b).symm
theorem V1t (n a:Nat) (hn:n ≤ 1000) (ha:a ≤ n + 1):Int.tmod (wr (((n + 1:Nat):Int) - (a:Int))) ((n + 1:Nat):Int)=(((n + 1 - a) % (n + 1):Nat):Int):=by
 rw [Kom (by omega) (by omega),show ((n + 1:Nat):Int) - (a:Int)=((n + 1 - a:Nat):Int) from by omega,V1s]
theorem V1u (n a:Nat):V1m n a ≤ n:=by
 have:=Nat.mod_lt (n + 1 - a) (show 0 < n + 1 by omega)
 unfold V1m
 omega
theorem V1v (n a:Nat) (hn:n ≤ 15) (ha:a ≤ n):∀ (k b:Nat) (P T:List Int) (B:List Bool),b + k=n + 1→P.length + k ≤ 1000000→T.length + k ≤ 1000000→B.length + k ≤ 1000000 →
  K9b ((n:Int),(a:Int),P,T,B,(b:Int))=some (P ++ (List.range' b k).map (V1n n a),T ++ (List.range' b k).map (V1o n a),B ++ (List.range' b k).map (V1p n a)):=by
 intro k
 induction k with
 | zero =>
  intro b P T B hb _ _ _
  rw [K9b.eq_def]
  simp only
  rw [V1g (by omega),if_neg (by decide)]
  simp
 | succ k ih =>
  intro b P T B hb h4 h5 h6
  have ck:chk (((n + 1:Nat):Int) ≠ 0)=some ():=by unfold chk; rw [if_pos (by omega)]
  have m1:=V1u n a
  have m2:=V1u n b
  have x1:Int.tmod (wr (((n + 1:Nat):Int) - (a:Int))) ((n + 1:Nat):Int)=((V1m n a:Nat):Int):=V1t n a (by omega) (by omega)
  have x2:Int.tmod (wr (((n + 1:Nat):Int) - (b:Int))) ((n + 1:Nat):Int)=((V1m n b:Nat):Int):=V1t n b (by omega) (by omega)
  rw [K9b.eq_def]
  simp only
  rw [V1f (by omega),if_pos rfl,Koo (n:=n) (by omega),ck,bs,bs,x1,x2,V1r,bs,bs,Kt3,bs,bs,V1t n _ (by omega) (by omega),V1t n _ (by omega) (by omega),Krs (by simp; omega),bs,Krs (by simp; omega),bs,Krs (by simp; omega),bs,Koo (by omega),ih (b + 1) _ _ _ (by omega) (by simp; omega) (by simp; omega) (by simp; omega)]
  simp [List.range'_succ,V1n,V1o,V1p]
theorem V1w (n:Nat) (hn:n ≤ 15):∀ (k a:Nat) (P T:List Int) (B:List Bool),a + k=n + 1→P.length + k * 16 ≤ 10000→T.length + k * 16 ≤ 10000→B.length + k * 16 ≤ 10000 →
  K9f ((n:Int),P,T,B,(a:Int))=some (P ++ (List.range' a k).flatMap (fun a=>(List.range' 0 (n + 1)).map (V1n n a)),T ++ (List.range' a k).flatMap (fun a=>(List.range' 0 (n + 1)).map (V1o n a)),B ++ (List.range' a k).flatMap (fun a=>(List.range' 0 (n + 1)).map (V1p n a))):=by
 intro k
 induction k with
 | zero =>
  intro a P T B hb _ _ _
  rw [K9f.eq_def]
  simp only
  rw [V1g (by omega),if_neg (by decide)]
  simp
 | succ k ih =>
  intro a P T B hb h1 h2 h3
  rw [K9f.eq_def]
  simp only
  rw [V1f (by omega),if_pos rfl,show (0:Int)=((0:Nat):Int) from rfl,V1v n a hn (by omega) (n + 1) 0 P T B (by omega) (by omega) (by omega) (by omega),bs]
  simp only
  rw [Koo (by omega),ih (a + 1) _ _ _ (by omega) (by simp; omega) (by simp; omega) (by simp; omega)]
  simp [List.range'_succ,List.flatMap_cons]
theorem V1x (n:Nat) (h1:1 ≤ n) (h2:n ≤ 15):K9i (n:Int)=some (V1q n):=by
 unfold K9i
 rw [sIn,bs,show inB (n:Int) 1 15=true from by unfold inB; rw [decide_eq_true (by omega),decide_eq_true (by omega)]; rfl,if_pos rfl,show (0:Int)=((0:Nat):Int) from rfl,V1w n h2 (n + 1) 0 [] [] [] (by omega) (by simp; omega) (by simp; omega) (by simp; omega),bs]
 simp only
 rw [Koo (by omega)]
 rfl
def V1y (n g:Nat):Nat:=if g=0 then 0 else if g=1 then 1 else if g ≤ n + 1 then (g - 1) / n else g / n
def V1z (n g:Nat):Nat:=if g < 2 then g else if g ≤ n + 1 then (g - 1) % n else g % n
def V20 (n x y:Nat):Nat:=if x * n + y=0 then 0 else if x * n + y=n + 1 then 1 else if x * n + y < n + 1 then x * n + y + 1 else x * n + y
theorem V21 (a b:Nat):Int.tdiv (a:Int) (b:Int)=((a / b:Nat):Int):=(Int.ofNat_tdiv a b).symm
theorem V22 (n g:Nat) (hn:1 ≤ n) (hn2:n ≤ 100) (hg:g ≤ 1000):Kb9 ((n:Int),(g:Int))=some ((V1y n g:Nat):Int):=by
 have ck:chk ((n:Int) ≠ 0)=some ():=by unfold chk; rw [if_pos (by omega)]
 have hd:∀ x,x ≤ 1000→x / n ≤ 1000:=fun x hx=>Nat.le_trans (Nat.div_le_self _ _) hx
 unfold Kb9 V1y
 simp only
 by_cases h0:g=0
 ·rw [if_pos (by simp [h0]),if_pos h0]; rfl
 rw [if_neg (by simpa using h0),if_neg h0]
 by_cases h1:g=1
 ·rw [if_pos (by simp [h1]),if_pos h1]; rfl
 rw [if_neg (by simp; omega),if_neg h1,Koo (by omega)]
 by_cases h2:g ≤ n + 1
 ·rw [V1f h2,if_pos rfl,if_pos h2,ck,bs,Kom (x:=(g:Int) - 1) (by omega) (by omega),show (g:Int) - 1=((g - 1:Nat):Int) from by omega,V21]
  have:=hd (g - 1) (by omega)
  generalize (g - 1) / n=q at *
  rw [Kom (by omega) (by omega)]
 ·rw [V1g (by omega),if_neg (by decide),if_neg h2,ck,bs,V21]
  have:=hd g hg
  generalize g / n=q at *
  rw [Kom (by omega) (by omega)]
theorem V23 (n g:Nat) (hn:1 ≤ n) (hn2:n ≤ 100) (hg:g ≤ 1000):Kbc ((n:Int),(g:Int))=some ((V1z n g:Nat):Int):=by
 have ck:chk ((n:Int) ≠ 0)=some ():=by unfold chk; rw [if_pos (by omega)]
 unfold Kbc V1z
 simp only
 by_cases h0:g < 2
 ·rw [decide_eq_true (by omega),if_pos rfl,if_pos h0]
 rw [decide_eq_false (by omega),if_neg (by decide),if_neg h0,Koo (by omega)]
 by_cases h2:g ≤ n + 1
 ·rw [V1f h2,if_pos rfl,if_pos h2,ck,bs,Kom (x:=(g:Int) - 1) (by omega) (by omega),show (g:Int) - 1=((g - 1:Nat):Int) from by omega,V1s]
 ·rw [V1g (by omega),if_neg (by decide),if_neg h2,ck,bs,V1s]
theorem V24 (n x y:Nat) (hn:n ≤ 100) (hx:x ≤ 100) (hy:y ≤ 100):Kbf ((n:Int),(x:Int),(y:Int))=some ((V20 n x y:Nat):Int):=by
 have hxn:x * n ≤ 100 * 100:=Nat.mul_le_mul hx hn
 have e:wr (wr ((x:Int) * (n:Int)) + (y:Int))=((x * n + y:Nat):Int):=by
  rw [← Int.natCast_mul,Kom (x:=((x * n:Nat):Int)) (by omega) (by omega),Kom (by omega) (by omega)]; omega
 unfold Kbf V20
 simp only
 rw [e,Koo (n:=n) (by omega)]
 by_cases h0:x * n + y=0
 ·rw [if_pos (by rw [h0]; rfl),if_pos h0]; rfl
 rw [if_neg (by simp; omega),if_neg h0]
 by_cases h1:x * n + y=n + 1
 ·rw [if_pos (by rw [h1]; simp),if_pos h1]; rfl
 rw [if_neg (by simp; omega),if_neg h1]
 by_cases h2:x * n + y < n + 1
 ·rw [Kop h2,if_pos rfl,if_pos h2,Koo (by omega)]
 ·rw [Koq (by omega),if_neg (by decide),if_neg h2]
theorem V25 {m n g:Nat} (hm:2 ≤ m) (hn:2 ≤ n) (h:g < m * n):V1y n g < m:=by
 unfold V1y
 split
 ·omega
 split
 ·omega
 split
 ·refine Nat.div_lt_of_lt_mul ?_
  rw [Nat.mul_comm]; omega
 ·exact Nat.div_lt_of_lt_mul (by rw [Nat.mul_comm]; exact h)
theorem V26 {n g:Nat} (hn:2 ≤ n):V1z n g < n:=by
 unfold V1z
 split
 ·omega
 split
 ·exact Nat.mod_lt _ (by omega)
 ·exact Nat.mod_lt _ (by omega)
def V27 (a b:K02) (m n g h:Nat):Int:=((V20 n (pl a m (V1y n g) (V1y n h)) (pl b n (V1z n g) (V1z n h)):Nat):Int)
def V28 (a b:K02) (m n g h:Nat):Int:=((V20 n (ti a m (V1y n g) (V1y n h)) (ti b n (V1z n g) (V1z n h)):Nat):Int)
def V29 (a b:K02) (m n g h:Nat):Bool:=le a m (V1y n g) (V1y n h) && le b n (V1z n g) (V1z n h)
def V2a (a b:K02) (m n:Nat):K02:=⟨((m * n:Nat):Int),(List.range' 0 (m * n)).flatMap (fun g=>(List.range' 0 (m * n)).map (V27 a b m n g)),(List.range' 0 (m * n)).flatMap (fun g=>(List.range' 0 (m * n)).map (V28 a b m n g)),(List.range' 0 (m * n)).flatMap (fun g=>(List.range' 0 (m * n)).map (V29 a b m n g))⟩
theorem V2b {m n:Nat} (hm:2 ≤ m) (hn:2 ≤ n) (hmn:m * n ≤ 16):m ≤ 16∧n ≤ 16:=⟨Nat.le_trans (Nat.le_mul_of_pos_right m (by omega)) hmn,Nat.le_trans (Nat.le_mul_of_pos_left n (by omega)) hmn⟩
section
variable {a b:K02} {m n:Nat} (ta:Tab a m) (tb:Tab b n) (hm:2 ≤ m) (hn:2 ≤ n) (hmn:m * n ≤ 16)
include ta tb hm hn hmn
theorem V2c {g:Nat} (hg:g < m * n):∀ (k h:Nat) (P T:List Int) (B:List Bool),h + k=m * n→P.length + k ≤ 1000000→T.length + k ≤ 1000000→B.length + k ≤ 1000000 →
  Kbj (a,b,(g:Int),P,T,B,(h:Int))=some (P ++ (List.range' h k).map (V27 a b m n g),T ++ (List.range' h k).map (V28 a b m n g),B ++ (List.range' h k).map (V29 a b m n g)):=by
 obtain ⟨hm16,hn16⟩:=V2b hm hn hmn
 have hN:wr (a.fSize * b.fSize)=((m * n:Nat):Int):=by
  rw [ta.size,tb.size,← Int.natCast_mul,Kom (by omega) (by omega)]
 intro k
 induction k with
 | zero =>
  intro h P T B hb _ _ _
  rw [Kbj.eq_def]
  simp only
  rw [hN,Koq (by omega),if_neg (by decide)]
  simp
 | succ k ih =>
  intro h P T B hb h4 h5 h6
  have f1:=V25 hm hn hg
  have f2:=V25 hm hn (show h < m * n by omega)
  have s1:V1z n g < n:=V26 hn
  have s2:V1z n h < n:=V26 hn
  have p1:=Kou ta f1 f2
  have p2:=Kou tb s1 s2
  have t1:=Kov ta f1 f2
  have t2:=Kov tb s1 s2
  rw [Kbj.eq_def]
  simp only
  rw [hN,Kop (by omega),if_pos rfl,tb.size,V22 n g (by omega) (by omega) (by omega),bs,V23 n g (by omega) (by omega) (by omega),bs,V22 n h (by omega) (by omega) (by omega),bs,V23 n h (by omega) (by omega) (by omega),bs,
   Koz ta f1 f2,bs,Koz tb s1 s2,bs,V24 n _ _ (by omega) (by omega) (by omega),bs,Krs (by simp; omega),bs,Kp0 ta f1 f2,bs,Kp0 tb s1 s2,bs,V24 n _ _ (by omega) (by omega) (by omega),bs,Krs (by simp; omega),bs,sLe ta f1 f2,bs,sLe tb s1 s2,bs]
  have f:∀ x:Bool,Qdw (B.length + [x].length) 1=some ():=fun x=>Krs (by simp; omega)
  have e3:((if le a m (V1y n g) (V1y n h)=true then Qdw (B.length + [le b n (V1z n g) (V1z n h)].length) 1 >>= fun _=>some (B ++ [le b n (V1z n g) (V1z n h)]) else Qdw (B.length + [false].length) 1 >>= fun _=>some (B ++ [false])):Option (List Bool))=some (B ++ [V29 a b m n g h]):=by
   rw [f,f,bs,bs]
   unfold V29
   cases le a m (V1y n g) (V1y n h) <;> rfl
  rw [e3,bs,Koo (by omega),ih (h + 1) _ _ _ (by omega) (by simp; omega) (by simp; omega) (by simp; omega)]
  simp [List.range'_succ,V27,V28]
theorem V2d:∀ (k g:Nat) (P T:List Int) (B:List Bool),g + k=m * n→P.length + k * 16 ≤ 10000→T.length + k * 16 ≤ 10000→B.length + k * 16 ≤ 10000 →
  Kbn (a,b,P,T,B,(g:Int))=some (P ++ (List.range' g k).flatMap (fun g=>(List.range' 0 (m * n)).map (V27 a b m n g)),T ++ (List.range' g k).flatMap (fun g=>(List.range' 0 (m * n)).map (V28 a b m n g)),B ++ (List.range' g k).flatMap (fun g=>(List.range' 0 (m * n)).map (V29 a b m n g))):=by
 have hN:wr (a.fSize * b.fSize)=((m * n:Nat):Int):=by
  rw [ta.size,tb.size,← Int.natCast_mul,Kom (by omega) (by omega)]
 intro k
 induction k with
 | zero =>
  intro g P T B hb _ _ _
  rw [Kbn.eq_def]
  simp only
  rw [hN,Koq (by omega),if_neg (by decide)]
  simp
 | succ k ih =>
  intro g P T B hb h1 h2 h3
  rw [Kbn.eq_def]
  simp only
  rw [hN,Kop (by omega),if_pos rfl,show (0:Int)=((0:Nat):Int) from rfl,V2c ta tb hm hn hmn (by omega) (m * n) 0 P T B (by omega) (by omega) (by omega) (by omega),bs]
  simp only
  rw [Koo (by omega),ih (g + 1) _ _ _ (by omega) (by simp; omega) (by simp; omega) (by simp; omega)]
  simp [List.range'_succ,List.flatMap_cons]
theorem V2e (sa:Ksj a=true) (sb:Ksj b=true):Kbq (a,b)=some (V2a a b m n,true):=by
 have hN:wr (a.fSize * b.fSize)=((m * n:Nat):Int):=by
  rw [ta.size,tb.size,← Int.natCast_mul,Kom (by omega) (by omega)]
 unfold Kbq Kb6
 simp only
 rw [Ksl,Ksl,bs,sa,if_pos rfl,bs,sb,if_pos rfl,bs,hN,decide_eq_true (by omega),bs,if_pos rfl,show (0:Int)=((0:Nat):Int) from rfl,V2d ta tb hm hn hmn (m * n) 0 [] [] [] (by omega) (by simp; omega) (by simp; omega) (by simp; omega),bs]
 rfl
end
def V2f:K02:=⟨3,[0,1,2,1,2,2,2,2,2],[0,0,0,0,1,2,0,2,2],[true,true,true,false,true,true,false,false,true]⟩
def V2g:K02:=⟨4,[0,1,2,3,1,2,3,3,2,3,3,3,3,3,3,3],[0,0,0,0,0,1,2,3,0,2,3,3,0,3,3,3],[true,true,true,true,false,true,true,true,false,false,true,true,false,false,false,true]⟩
def V2h:K02:=⟨5,[0,1,2,3,4,1,2,3,4,4,2,3,4,4,4,3,4,4,4,4,4,4,4,4,4],[0,0,0,0,0,0,1,2,3,4,0,2,4,4,4,0,3,4,4,4,0,4,4,4,4],[true,true,true,true,true,false,true,true,true,true,false,false,true,true,true,false,false,false,true,true,false,false,false,false,true]⟩
def V2i:K02:=⟨3,[0,1,2,1,2,2,2,2,2],[0,0,0,0,1,2,0,2,2],[true,false,true,false,true,true,false,false,true]⟩
def V2j:K02:=⟨4,[0,1,2,3,1,2,3,3,2,3,3,3,3,3,3,3],[0,0,0,0,0,1,2,3,0,2,3,3,0,3,3,3],[true,false,false,true,false,true,false,true,false,false,true,true,false,false,false,true]⟩
def V2k:K02:=⟨5,[0,1,2,3,4,1,2,3,4,4,2,3,4,4,4,3,4,4,4,4,4,4,4,4,4],[0,0,0,0,0,0,1,2,3,4,0,2,4,4,4,0,3,4,4,4,0,4,4,4,4],[true,false,false,false,true,false,true,false,false,true,false,false,true,false,true,false,false,false,true,true,false,false,false,false,true]⟩
def V2l:K02:=⟨2,[0,1,1,1],[0,0,0,1],[true,true,false,true]⟩
def V2m:K02:=⟨3,[0,1,2,1,1,1,2,1,2],[0,0,0,0,1,2,0,2,2],[true,true,true,false,true,false,false,true,true]⟩
def V2n:K02:=⟨4,[0,1,2,3,1,1,1,1,2,1,2,2,3,1,2,3],[0,0,0,0,0,1,2,3,0,2,2,3,0,3,3,3],[true,true,true,true,false,true,false,false,false,true,true,false,false,true,true,true]⟩
def V2o:K02:=⟨6,[0,1,2,3,4,5,1,5,1,5,5,5,2,1,2,1,5,5,3,5,1,4,4,5,4,5,5,4,4,5,5,5,5,5,5,5],[0,0,0,0,0,0,0,1,2,3,4,5,0,2,2,0,0,2,0,3,0,3,4,4,0,4,0,4,4,4,0,5,2,4,4,5],[true,false,true,false,true,true,false,true,false,false,false,true,false,false,true,false,false,true,false,true,false,true,true,true,false,false,false,false,true,true,false,false,false,false,false,true]⟩
def V2p:K02:=⟨9,[0,1,2,3,4,5,6,7,8,1,7,1,1,7,7,7,7,7,2,1,2,2,1,1,7,7,7,3,1,2,3,5,5,8,7,8,4,7,1,5,6,8,6,7,8,5,7,1,5,8,8,8,7,8,6,7,7,8,6,8,6,7,8,7,7,7,7,7,7,7,7,7,8,7,7,8,8,8,8,7,8],[0,0,0,0,0,0,0,0,0,0,1,2,3,4,5,6,7,8,0,2,2,3,0,3,0,2,3,0,3,3,3,0,3,0,3,3,0,4,0,0,4,4,6,6,6,0,5,3,3,4,5,6,8,8,0,6,0,0,6,6,6,6,6,0,7,2,3,6,8,6,7,8,0,8,3,3,6,8,6,8,8],[true,false,true,true,false,false,true,true,true,false,true,false,false,false,false,false,true,false,false,false,true,false,false,false,false,true,false,false,false,true,true,false,false,false,true,true,false,true,false,false,true,true,true,true,true,false,true,false,false,false,true,false,true,true,false,false,false,false,false,false,true,true,true,false,false,false,false,false,false,false,true,false,false,false,false,false,false,false,false,true,true]⟩
theorem V2q:V1e 1 true=V2f:=by kernel_rfl
theorem V2r:Ksj V2f=true:=by kernel_rfl
theorem V2s:V1e 2 true=V2g:=by kernel_rfl
theorem V2t:Ksj V2g=true:=by kernel_rfl
theorem V2u:V1e 3 true=V2h:=by kernel_rfl
theorem V2v:Ksj V2h=true:=by kernel_rfl
theorem V2w:V1e 1 false=V2i:=by kernel_rfl
theorem V2x:Ksj V2i=true:=by kernel_rfl
theorem V2y:V1e 2 false=V2j:=by kernel_rfl
theorem V2z:Ksj V2j=true:=by kernel_rfl
theorem V30:V1e 3 false=V2k:=by kernel_rfl
theorem V31:Ksj V2k=true:=by kernel_rfl
theorem V32:V1q 1=V2l:=by kernel_rfl
theorem V33:Ksj V2l=true:=by kernel_rfl
theorem V34:V1q 2=V2m:=by kernel_rfl
theorem V35:Ksj V2m=true:=by kernel_rfl
theorem V36:V1q 3=V2n:=by kernel_rfl
theorem V37:Ksj V2n=true:=by kernel_rfl
theorem V38:V2a V2i V2l 3 2=V2o:=by kernel_rfl
theorem V39:Ksj V2o=true:=by kernel_rfl
theorem V3a:V2a V2i V2m 3 3=V2p:=by kernel_rfl
theorem V3b:Ksj V2p=true:=by kernel_rfl
def V3c:List K02:=[V2f,V2g,V2h,V2i,V2j,V2k,V2l,V2m,V2n,V2o,V2p]
theorem V3d {s:K02} (h:s ∈ V3c):Ksj s=true∧(2 ≤ s.fSize∧s.fSize ≤ 9)∧sms s ≤ 300:=by
 simp only [V3c,List.mem_cons,List.not_mem_nil,or_false] at h
 rcases h with rfl | rfl | rfl | rfl | rfl | rfl | rfl | rfl | rfl | rfl | rfl
 ·exact ⟨V2r,by decide,by decide⟩
 ·exact ⟨V2t,by decide,by decide⟩
 ·exact ⟨V2v,by decide,by decide⟩
 ·exact ⟨V2x,by decide,by decide⟩
 ·exact ⟨V2z,by decide,by decide⟩
 ·exact ⟨V31,by decide,by decide⟩
 ·exact ⟨V33,by decide,by decide⟩
 ·exact ⟨V35,by decide,by decide⟩
 ·exact ⟨V37,by decide,by decide⟩
 ·exact ⟨V39,by decide,by decide⟩
 ·exact ⟨V3b,by decide,by decide⟩
theorem V3e (x:Int) (h:V16 3 x):x=0∨x=1∨x=2:=by
 have:=h.1 (by decide)
 omega
theorem V3f {x:Int} (h:V16 3 x):Gv (K91 (wr (1 + x))) (fun s=>s ∈ V3c):=by
 rcases V3e x h with rfl | rfl | rfl
 ·exact .eq (V1l 1 (by decide) (by decide)) (by rw [V2q]; simp [V3c])
 ·exact .eq (V1l 2 (by decide) (by decide)) (by rw [V2s]; simp [V3c])
 ·exact .eq (V1l 3 (by decide) (by decide)) (by rw [V2u]; simp [V3c])
theorem V3g {x:Int} (h:V16 3 x):Gv (K94 (wr (1 + x))) (fun s=>s ∈ V3c):=by
 rcases V3e x h with rfl | rfl | rfl
 ·exact .eq (V1k 1 (by decide) (by decide)) (by rw [V2w]; simp [V3c])
 ·exact .eq (V1k 2 (by decide) (by decide)) (by rw [V2y]; simp [V3c])
 ·exact .eq (V1k 3 (by decide) (by decide)) (by rw [V30]; simp [V3c])
theorem V3h {x:Int} (h:V16 3 x):Gv (K9i (wr (1 + x))) (fun s=>s ∈ V3c):=by
 rcases V3e x h with rfl | rfl | rfl
 ·exact .eq (V1x 1 (by decide) (by decide)) (by rw [V32]; simp [V3c])
 ·exact .eq (V1x 2 (by decide) (by decide)) (by rw [V34]; simp [V3c])
 ·exact .eq (V1x 3 (by decide) (by decide)) (by rw [V36]; simp [V3c])
theorem V3i {c:K01} (h:V10 c):Gv (Kbt c) (fun r=>r.1 ∈ V3c∧V10 r.2):=by
 unfold Kbt
 refine Gv.bind (V17 h 3) ?_
 rintro ⟨x,c1⟩ ⟨hx,h1⟩
 simp only at hx h1 ⊢
 refine Gv.bind (V3f hx) (fun s0 hs0=>?_)
 refine Gv.bind (V17 h1 8) ?_
 rintro ⟨y,c2⟩ ⟨hy,h2⟩
 simp only at hy h2 ⊢
 have fin:∀ (R:Int × List Int × List Int × List Bool × List Int × Int × Int→Prop),True:=fun _=>trivial
 refine Gv.bind (Q:=fun _=>True) (.ite (fun _=>.of trivial) (fun _=>Gv.bind (Q:=fun _=>True) (.ite (fun _=>.of trivial) (fun _=>.of trivial)) (fun _ _=>.of trivial))) (fun j5 _=>?_)
 refine Gv.bind (Q:=fun r:Int × List Int × List Int × List Bool × List Int × Int × Int=>(⟨r.1,r.2.1,r.2.2.1,r.2.2.2.1⟩:K02) ∈ V3c∧V10 ⟨r.2.2.2.2.1,r.2.2.2.2.2.1,r.2.2.2.2.2.2⟩) (.ite (fun _=>?_) (fun _=>?_)) ?_
 ·exact Gv.bind (V3g hx) (fun s hs=>.of ⟨hs,h2⟩)
 ·refine Gv.bind (Q:=fun _=>True) (.ite (fun _=>.of trivial) (fun _=>.of trivial)) (fun j9 _=>?_)
  refine Gv.bind (Q:=fun r:Int × List Int × List Int × List Bool × List Int × Int × Int=>(⟨r.1,r.2.1,r.2.2.1,r.2.2.2.1⟩:K02) ∈ V3c∧V10 ⟨r.2.2.2.2.1,r.2.2.2.2.2.1,r.2.2.2.2.2.2⟩) (.ite (fun _=>?_) (fun _=>?_)) (by rintro ⟨a,b,d,e,f,g,i⟩ q; exact .of q)
  ·exact Gv.bind (V3h hx) (fun s hs=>.of ⟨hs,h2⟩)
  ·refine Gv.bind (Q:=fun r:Int × List Int × List Int × List Bool × List Int × Int × Int=>(⟨r.1,r.2.1,r.2.2.1,r.2.2.2.1⟩:K02) ∈ V3c∧V10 ⟨r.2.2.2.2.1,r.2.2.2.2.2.1,r.2.2.2.2.2.2⟩) (.ite (fun _=>?_) (fun _=>.of ⟨hs0,h2⟩)) (by rintro ⟨a,b,d,e,f,g,i⟩ q; exact .of q)
   rw [show (1:Int)=((1:Nat):Int) from rfl,V1k 1 (by decide) (by decide),V2w,bs]
   refine Gv.bind (V17 h2 2) ?_
   rintro ⟨z,c3⟩ ⟨hz,h3⟩
   simp only at hz h3 ⊢
   have hz:=hz.1 (by decide)
   have t3:Tab V2i 3:=Ksk V2x
   rcases (show z=0∨z=1 by omega) with rfl | rfl
   ·have e:wr (((1:Nat):Int) + 0)=((1:Nat):Int):=rfl
    rw [e,V1x 1 (by decide) (by decide),V32,bs,V2e (m:=3) (n:=2) t3 (Ksk V33) (by decide) (by decide) (by decide) V2x V33,V38,bs]
    exact .of ⟨by simp [V3c],h3⟩
   ·have e:wr (((1:Nat):Int) + 1)=((2:Nat):Int):=rfl
    rw [e,V1x 2 (by decide) (by decide),V34,bs,V2e (m:=3) (n:=3) t3 (Ksk V35) (by decide) (by decide) (by decide) V2x V35,V3a,bs]
    exact .of ⟨by simp [V3c],h3⟩
 ·rintro ⟨a,b,d,e,f,g,i⟩ q
  exact .of q
theorem V3j (c:Int) (a:List Int) (h:a.length ≤ 1000000):Kc0 (c,[a])=some (c :: a):=by
 rw [Kxv c [a] (by simp) (by simp; omega)]; simp
theorem V3k (c:Int) (a b:List Int) (h:a.length + b.length ≤ 1000000):Kc0 (c,[a,b])=some (c :: (a ++ b)):=by
 rw [Kxv c [a,b] (by simp) (by simp; omega)]; simp
theorem V3l (d:Nat) (hd:d ≤ 10):2 ^ d ≤ 1024:=Nat.le_trans (Nat.pow_le_pow_right (by decide) hd) (by decide)
structure V3m (s:K02) (ctx:List (List Int)) (t:K00) (y:Kns):Prop where
 ok:tOk (gN s.fSize true) (yN s.fSize true) ctx.length t=true
 cx:∀ q ∈ ctx,TyS s q
 bd:ctx.length + 2 * tsz t ≤ 1000000
 im:Kok (⟨s⟩,ctx,t)=some y
 fa:y.ffault=0
section
variable {s:K02} {n:Nat} (hs:Kwv s n) {ctx:List (List Int)} {t:K00} {y:Kns}
include hs
theorem V3m.tell (g:V3m s ctx t y):∃ x,Kzr s n ctx t x y∧x.ffault=0∧x.fty=y.fty∧TyS s y.fty:=by
 obtain ⟨x,y',r⟩:=V0z hs (tsz t) t ctx (Nat.le_refl _) g.ok g.cx g.bd
 have e:=r.im
 rw [g.im] at e
 cases e
 have hf:x.ffault=0:=by rw [← r.fa]; exact g.fa
 exact ⟨x,r,hf,r.ty.symm,by rw [r.ty]; exact (r.gd hf).1⟩
theorem V3m.kid (g:V3m s ctx t y) {i:Nat} {k:K00} (hk:t.fKids[i]?=some k):∃ yk,y.fkids[i]?=some yk∧V3m s (Kzp t i y.fkids ++ ctx) k yk∧(Kzp t i y.fkids).length=Kr3 t.fOp i:=by
 obtain ⟨x,r,hf,_⟩:=g.tell hs
 obtain ⟨yk,h1,h2⟩:=(r.kd hf).2 i k hk
 obtain ⟨hi,hg⟩:=List.getElem?_eq_some_iff.1 hk
 have hm:k ∈ t.fKids:=hg ▸ List.getElem_mem hi
 have h3:=Kup t.fKids t.fOp ctx.length 0 i hi (Krq g.ok).2
 rw [hg,Nat.zero_add] at h3
 have h4:=Kt8 hm
 have h5:=Kr4 t.fOp (i:Int)
 have h6:=g.bd
 have h7:=h2.ln
 refine ⟨yk,h1,⟨?_,?_,?_,h2.im,h2.fa⟩,h7⟩
 ·rw [List.length_append,h7,Nat.add_comm]; exact h3
 ·intro q hq
  rcases List.mem_append.1 hq with hq | hq
  ·exact h2.ty q hq
  ·exact g.cx q hq
 ·rw [List.length_append,h7]; omega
theorem V3m.first (g:V3m s ctx t y) (h0:0 < t.fKids.length) (ha:Kr3 t.fOp ((0:Nat):Int)=0):∃ k0 y0 x0 l,t.fKids[0]?=some k0∧y.fkids=y0 :: l∧(Kzr s n ctx k0 x0 y0∧x0.ffault=0)∧Ke8 (s,ctx,k0)=some x0∧x0.fty=y0.fty∧TyS s y0.fty:=by
 have hk:t.fKids[0]?=some t.fKids[0]:=List.getElem?_eq_getElem h0
 obtain ⟨y0,h1,h2,h3⟩:=g.kid hs hk
 rw [ha] at h3
 rw [List.eq_nil_of_length_eq_zero h3,List.nil_append] at h2
 obtain ⟨x0,r,hf,h4,h5⟩:=h2.tell hs
 cases e:y.fkids with
 | nil=>rw [e] at h1; cases h1
 | cons z l =>
  rw [e] at h1
  cases h1
  exact ⟨_,_,x0,l,hk,rfl,⟨r,hf⟩,r.sp,h4,h5⟩
end
theorem V3n {s:K02} {c:Int} {a b:List Int} (hk:Kpr c=2) (hg:Kqd s.fSize true c=true) (ha:TyS s a) (hb:TyS s b) (hl:a.length + b.length + 1 ≤ 40):TyS s (c :: (a ++ b)):=by
 obtain ⟨A,a1,rfl,a3,a4⟩:=Ky5 ha
 obtain ⟨B,b1,rfl,b3,b4⟩:=Ky5 hb
 refine Ky6 (T:=.bin c A B) ⟨hk,a1,b1⟩ (by rw [Ty.code,List.length_cons,List.length_append]; omega) ?_
 rw [Ty.code,List.all_cons,List.all_append,hg,a4,b4]; rfl
theorem V3o {s:K02} {c:Int} {a:List Int} (hk:Kpr c=1) (hg:Kqd s.fSize true c=true) (ha:TyS s a) (hl:a.length + 1 ≤ 40):TyS s (c :: a):=by
 obtain ⟨A,a1,rfl,a3,a4⟩:=Ky5 ha
 refine Ky6 (T:=.un c A) ⟨hk,a1⟩ (by rw [Ty.code,List.length_cons]; omega) ?_
 rw [Ty.code,List.all_cons,hg,a4]; rfl
theorem V3p {s:K02}:Kqd s.fSize true 1=true:=by unfold Kqd; simp
theorem V3q {s:K02}:Kqd s.fSize true 2=true:=by unfold Kqd; simp
theorem V3r {s:K02} {q:List Int} (h:TyS s q):1 ≤ q.length:=by
 obtain ⟨T,_,rfl,_,_⟩:=Ky5 h
 exact Kso T
def V3s (s:K02) (m b:Nat) (t:K00):Prop:=tOk (gN s.fSize true) (yN s.fSize true) m t=true∧tsz t ≤ b
def V3t (s:K02) (ctx:List (List Int)):Prop:=∀ q ∈ ctx,TyS s q
theorem V3u {s:K02} {ctx:List (List Int)} {q:List Int} (h:V3t s ctx) (hq:TyS s q):V3t s (q :: ctx):=fun x hx=>by
 rcases List.mem_cons.1 hx with rfl | hx
 ·exact hq
 ·exact h x hx
theorem V3v {s:K02} {m:Nat} {i:Nat} (hi:i < m):V3s s m 1 ⟨0,(i:Int),[],[]⟩:=by
 refine ⟨?_,by simp [tsz,Kqj]⟩
 rw [Krb]
 simp [Kra,Kr9,Kr7,Kr8,inB,Kqt,Kqv]
 omega
theorem V3w {s:K02} {m:Nat} {x:Int} (hx:0 ≤ x∧x < 3):V3s s m 1 ⟨1,x,[],[]⟩:=by
 refine ⟨?_,by simp [tsz,Kqj]⟩
 rw [Krb]
 simp [Kra,Kr9,Kr7,Kr8,inB,Kqt,Kqv]
 omega
theorem V3x {s:K02} {op:Int} {m b1 b2:Nat} {k1 k2:K00} (hop:op=2∨op=4∨op=10) (h1:V3s s m b1 k1) (h2:V3s s m b2 k2):V3s s m (1 + b1 + b2) ⟨op,0,[],[k1,k2]⟩:=by
 refine ⟨?_,by have:=h1.2; have:=h2.2; simp [tsz,Kqj]; omega⟩
 rw [Krb]
 rcases hop with rfl | rfl | rfl <;> simp [Kra,Kr9,Kr7,Kr8,inB,Kqt,Kqv,Kqu,Kr3,h1.1,h2.1]
theorem V3y {s:K02} {m b1 b2 b3:Nat} {k1 k2 k3:K00} (h1:V3s s m b1 k1) (h2:V3s s m b2 k2) (h3:V3s s m b3 k3):V3s s m (1 + b1 + b2 + b3) ⟨3,0,[],[k1,k2,k3]⟩:=by
 refine ⟨?_,by have:=h1.2; have:=h2.2; have:=h3.2; simp [tsz,Kqj]; omega⟩
 rw [Krb]
 simp [Kra,Kr9,Kr7,Kr8,inB,Kqt,Kqv,Kqu,Kr3,h1.1,h2.1,h3.1]
theorem V3z {s:K02} {op:Int} {m b1:Nat} {q:List Int} {k1:K00} (hop:op=6∨op=7) (hq:TyS s q) (h1:V3s s m b1 k1):V3s s m (1 + b1) ⟨op,0,q,[k1]⟩:=by
 have hq:yN s.fSize true q=true:=hq
 refine ⟨?_,by have:=h1.2; simp [tsz,Kqj]; omega⟩
 rw [Krb]
 rcases hop with rfl | rfl <;> simp [Kra,Kr9,Kr7,Kr8,inB,Kqt,Kqv,Kqu,Kr3,h1.1,hq]
section
variable {s:K02} {n:Nat} (hs:Kwv s n)
include hs
theorem V40 {g:Nat} (h:g < n):Kpr (3 + (g:Int))=2∧Kqd s.fSize true (3 + (g:Int))=true:=by
 have:=hs.tab.hi
 refine ⟨by rcases Kpv (3 + (g:Int)) with q | q | q | q <;> omega,(Kyb hs (by omega)).2 (by omega)⟩
theorem V41 {g:Nat} (h:g < n):Kpr (19 + (g:Int))=1∧Kqd s.fSize true (19 + (g:Int))=true:=by
 have:=hs.tab.hi
 refine ⟨by rcases Kpv (19 + (g:Int)) with q | q | q | q <;> omega,(Kyc hs (by omega)).2 (by omega)⟩
theorem V42:∀ (d:Nat) (c:K01) (data:Bool),d ≤ 3→V10 c→Gv (Kc3 (c,s,(d:Int),data)) (fun r=>(TyS s r.1∧r.1.length + 1 ≤ 2 ^ (d + 1))∧V10 r.2):=by
 have hsz:=hs.tab.size
 have hlo:=hs.tab.lo
 intro d
 induction d with
 | zero =>
  intro c data _ h
  rw [Kc3.eq_def]
  simp only
  refine Gv.bind (V17 h 6) ?_
  rintro ⟨x,c1⟩ ⟨hx,h1⟩
  simp only at hx h1 ⊢
  rw [show decide (((0:Nat):Int) ≤ 0)=true from rfl,if_pos rfl,bs,if_pos rfl]
  exact .of ⟨⟨Kya,by simp⟩,h1⟩
 | succ d ih =>
  intro c data hd h
  have hp:=V3l (d + 1) (by omega)
  have hp5:2 ^ (d + 1) ≤ 8:=Nat.le_trans (Nat.pow_le_pow_right (by decide) (show d + 1 ≤ 3 by omega)) (by decide)
  have hpe:2 ^ (d + 1 + 1)=2 ^ (d + 1) + 2 ^ (d + 1):=by rw [Nat.pow_succ]; omega
  have hp1:2 ≤ 2 ^ (d + 1):=Nat.le_trans (by decide) (Nat.pow_le_pow_right (n:=2) (by decide) (show 1 ≤ d + 1 by omega))
  have wd:wr (((d + 1:Nat):Int) - 1)=((d:Nat):Int):=by rw [Kom (by omega) (by omega)]; omega
  rw [Kc3.eq_def]
  simp only
  refine Gv.bind (V17 h 6) ?_
  rintro ⟨x,c1⟩ ⟨hx,h1⟩
  simp only at hx h1 ⊢
  rw [show decide (((d + 1:Nat):Int) ≤ 0)=false from decide_eq_false (by omega),if_neg (by decide),bs]
  refine .ite (fun _=>.of ⟨⟨Kya,by simp; omega⟩,h1⟩) (fun _=>?_)
  rw [wd]
  refine Gv.bind (ih c1 data (by omega) h1) ?_
  rintro ⟨a,c2⟩ ⟨⟨ta,ha⟩,h2⟩
  simp only at ta ha h2 ⊢
  refine .ite (fun _=>?_) (fun _=>?_)
  ·refine Gv.bind (V17 h2 _) ?_
   rintro ⟨y,c3⟩ ⟨hy,h3⟩
   simp only at hy h3 ⊢
   have hy:=hy.1 (by omega)
   obtain ⟨g,rfl⟩:∃ g:Nat,y=(g:Int):=⟨y.toNat,by omega⟩
   obtain ⟨k1,k2⟩:=V41 hs (g:=g) (by omega)
   have hb:=hs.tab.hi
   rw [Kom (by omega) (by omega),V3j _ _ (by omega),bs]
   exact .of ⟨⟨V3o k1 k2 ta (by omega),by simp; omega⟩,h3⟩
  refine Gv.bind (Q:=fun _=>True) (.ite (fun _=>.of trivial) (fun _=>.of trivial)) (fun v _=>?_)
  refine .ite (fun _=>?_) (fun _=>.ite (fun _=>?_) (fun _=>?_))
  ·refine Gv.bind (V17 h2 _) ?_
   rintro ⟨y,c3⟩ ⟨hy,h3⟩
   simp only at hy h3 ⊢
   have hy:=hy.1 (by omega)
   obtain ⟨g,rfl⟩:∃ g:Nat,y=(g:Int):=⟨y.toNat,by omega⟩
   obtain ⟨k1,k2⟩:=V40 hs (g:=g) (by omega)
   have hbb:=hs.tab.hi
   refine Gv.bind (ih c3 data (by omega) h3) ?_
   rintro ⟨b,c4⟩ ⟨⟨tb,hb⟩,h4⟩
   simp only at tb hb h4 ⊢
   rw [Kom (by omega) (by omega),V3k _ _ _ (by omega),bs]
   exact .of ⟨⟨V3n k1 k2 ta tb (by omega),by simp; omega⟩,h4⟩
  ·refine Gv.bind (ih c2 data (by omega) h2) ?_
   rintro ⟨b,c4⟩ ⟨⟨tb,hb⟩,h4⟩
   simp only at tb hb h4 ⊢
   rw [V3k _ _ _ (by omega),bs]
   exact .of ⟨⟨V3n rfl V3q ta tb (by omega),by simp; omega⟩,h4⟩
  ·refine Gv.bind (ih c2 data (by omega) h2) ?_
   rintro ⟨b,c4⟩ ⟨⟨tb,hb⟩,h4⟩
   simp only at tb hb h4 ⊢
   rw [V3k _ _ _ (by omega),bs]
   exact .of ⟨⟨V3n rfl V3p ta tb (by omega),by simp; omega⟩,h4⟩
theorem V43 {ctx:List (List Int)} {t:K00} {b:Nat} (hc:V3t s ctx) (hl:ctx.length ≤ 1000) (hb:b ≤ 400000) (h:V3s s ctx.length b t) :
  ∃ x,Ke8 (s,ctx,t)=some x∧(x.ffault=0→TyS s x.fty∧∃ ns:List Nat,x.fneeds=Kwq ns∧ns.length=ctx.length∧Kx6 n ns):=by
 have:=h.2
 obtain ⟨x,y,r⟩:=V0z hs (tsz t) t ctx (Nat.le_refl _) h.1 hc (by omega)
 exact ⟨x,r.sp,fun hf=>let ⟨g1,_,g2⟩:=r.gd hf; ⟨g1,g2⟩⟩
theorem V44 {ctx:List (List Int)} {t:K00} {b:Nat} (hc:V3t s ctx) (hl:ctx.length ≤ 1000) (hb:b ≤ 400000) (h:V3s s ctx.length b t) (i:Nat) (hi:i < ctx.length) :
  ∃ g:Nat,g < n∧Kel (s,ctx,t,(i:Int))=some (g:Int):=by
 obtain ⟨x,e,hx⟩:=V43 hs hc hl hb h
 unfold Kel
 simp only
 rw [e,bs]
 by_cases hf:x.ffault=0
 ·obtain ⟨_,ns,e2,e3,e4⟩:=hx hf
  have hi':i < ns.length:=by omega
  refine ⟨ns[i],e4 _ (List.getElem_mem hi'),?_⟩
  rw [if_neg (by simp [hf]),e2,Kon (by rw [Kwr]; exact hi'),bs]
  simp [Kwq]
 ·rw [if_pos (bne_iff_ne.2 hf)]
  exact ⟨0,Nat.lt_of_lt_of_le (by decide) hs.tab.lo,rfl⟩
theorem V45 {a b:Nat} (ha:a < n) (hb:b < n):∃ g:Nat,g < n∧Kag (s,(a:Int),(b:Int))=some (g:Int):=by
 obtain ⟨e,h⟩:=Kx2 hs ha hb
 exact ⟨_,h,by rw [Kpf hs.tab ha hb,e]⟩
theorem V46 (c0:K01) {g:Nat} (hg:g < n):∀ (k i:Nat) (c:K01),i + k=3→V10 c→Gv (Kep (c0,s,(g:Int),c.fb,c.fi,c.fh,(i:Int))) (fun fl=>match fl with | .inl r=>V10 ⟨r.1,r.2.1,r.2.2⟩ | .inr r=>(∃ h:Nat,h < n∧r.1=(h:Int))∧V10 r.2):=by
 have hsz:=hs.tab.size
 have hlo:=hs.tab.lo
 intro k
 induction k with
 | zero =>
  intro i c hi h
  rw [Kep.eq_def]
  simp only
  rw [decide_eq_false (by omega),if_neg (by decide),bs]
  simp only
  rw [if_neg (by decide)]
  exact .of h
 | succ k ih =>
  intro i c hi h
  rw [Kep.eq_def]
  simp only
  rw [decide_eq_true (by omega),if_pos rfl]
  refine Gv.bind (Q:=fun r:List Int × Int × Int × Bool=>V10 ⟨r.1,r.2.1,r.2.2.1⟩) (Gv.bind (V18 h 3) (by rintro ⟨x,c1⟩ h1; exact .of h1)) ?_
  rintro ⟨a,b,d,v⟩ h1
  simp only at h1 ⊢
  refine .ite (fun _=>?_) (fun _=>.of h1)
  refine Gv.bind (V17 h1 _) ?_
  rintro ⟨y,c3⟩ ⟨hy,h3⟩
  simp only at hy h3 ⊢
  have hy:=hy.1 (by omega)
  obtain ⟨q,rfl⟩:∃ q:Nat,y=(q:Int):=⟨y.toNat,by omega⟩
  rw [sLe hs.tab hg (by omega),bs]
  refine .ite (fun _=>.of ⟨⟨q,by omega,rfl⟩,h3⟩) (fun _=>?_)
  rw [Koo (by omega)]
  exact ih (i + 1) c3 (by omega) h3
theorem V47 {c:K01} (h:V10 c) {g:Nat} (hg:g < n):Gv (Kes (c,s,(g:Int))) (fun r=>(∃ h:Nat,h < n∧r.1=(h:Int))∧V10 r.2):=by
 have hsz:=hs.tab.size
 unfold Kes
 simp only
 rw [decide_eq_false (by omega),if_neg (by decide),decide_eq_false (by omega),bs,if_neg (by decide)]
 have:=V46 hs c hg 3 0 c rfl h
 rw [show ((0:Nat):Int)=0 from rfl] at this
 refine Gv.bind this ?_
 rintro (⟨a,b,d⟩ | ⟨r,c1⟩) q
 ·exact .of ⟨⟨g,hg,rfl⟩,q⟩
 ·exact .of q
theorem V48 {g:Nat} (h:g < n):gN s.fSize true (g:Int)=true:=by
 have:=hs.tab.size
 unfold gN
 simp
 omega
theorem V49 {m b1 b2 g:Nat} {k1 k2:K00} (hg:g < n) (h1:V3s s m b1 k1) (h2:V3s s (m + 2) b2 k2):V3s s m (1 + b1 + b2) ⟨5,(g:Int),[],[k1,k2]⟩:=by
 refine ⟨?_,by have:=h1.2; have:=h2.2; simp [tsz,Kqj]; omega⟩
 rw [Krb]
 simp [Kra,Kr9,Kr7,Kr8,inB,Kqt,Kqv,Kqu,Kr3,h1.1,h2.1,V48 hs hg]
theorem V4a {m b1 b2 b3 g:Nat} {k1 k2 k3:K00} (hg:g < n) (h1:V3s s m b1 k1) (h2:V3s s (m + 1) b2 k2) (h3:V3s s (m + 1) b3 k3):V3s s m (1 + b1 + b2 + b3) ⟨8,(g:Int),[],[k1,k2,k3]⟩:=by
 refine ⟨?_,by have:=h1.2; have:=h2.2; have:=h3.2; simp [tsz,Kqj]; omega⟩
 rw [Krb]
 simp [Kra,Kr9,Kr7,Kr8,inB,Kqt,Kqv,Kqu,Kr3,h1.1,h2.1,h3.1,V48 hs hg]
theorem V4b {m b1 b2 g:Nat} {k1 k2:K00} (hg:g < n) (h1:V3s s m b1 k1) (h2:V3s s (m + 1) b2 k2):V3s s m (1 + b1 + b2) ⟨12,(g:Int),[],[k1,k2]⟩:=by
 refine ⟨?_,by have:=h1.2; have:=h2.2; simp [tsz,Kqj]; omega⟩
 rw [Krb]
 simp [Kra,Kr9,Kr7,Kr8,inB,Kqt,Kqv,Kqu,Kr3,h1.1,h2.1,V48 hs hg]
theorem V4c {m b1 g:Nat} {k1:K00} (hg:g < n) (h1:V3s s m b1 k1):V3s s m (1 + b1) ⟨11,(g:Int),[],[k1]⟩:=by
 refine ⟨?_,by have:=h1.2; simp [tsz,Kqj]; omega⟩
 rw [Krb]
 simp [Kra,Kr9,Kr7,Kr8,inB,Kqt,Kqv,Kqu,Kr3,h1.1,V48 hs hg]
theorem V4d {m b1 g:Nat} {q:List Int} {k1:K00} (hg:g < n) (hq:TyS s q) (h1:V3s s (m + 1) b1 k1):V3s s m (1 + b1) ⟨9,(g:Int),q,[k1]⟩:=by
 have hq:yN s.fSize true q=true:=hq
 refine ⟨?_,by have:=h1.2; simp [tsz,Kqj]; omega⟩
 rw [Krb]
 simp [Kra,Kr9,Kr7,Kr8,inB,Kqt,Kqv,Kqu,Kr3,h1.1,hq,V48 hs hg]
end
theorem V3s.mono {s:K02} {m b b':Nat} {t:K00} (h:V3s s m b t) (hb:b ≤ b'):V3s s m b' t:=⟨h.1,Nat.le_trans h.2 hb⟩
theorem sOp (op N:Int) (ks:List K00):Kck (op,N,ks)=some ⟨op,N,[],ks⟩:=rfl
def Dr (s:K02) (m b:Nat) (r:K00 × K01):Prop:=V3s s m b r.1∧V10 r.2
section
variable {s:K02} {n:Nat} (hs:Kwv s n)
theorem V4e {c0 c:K01} (h:V10 c) {ctx:List (List Int)} {ty:List Int} {deep:Int} (hl:ctx.length ≤ 1000) (hty:ty.length ≤ 1000) {f:Int} (hf:0 ≤ f∧f < ctx.length) (hq:∀ q ∈ ctx,q.length ≤ 1000):∀ (k i:Nat),i + k=ctx.length →
  Gv (Kfa (c0,s,ctx,ty,deep,f,c,(i:Int))) (fun fl=>match fl with | .inl _=>True | .inr r=>Dr s ctx.length 1 r):=by
 intro k
 induction k with
 | zero =>
  intro i hi
  rw [Kfa.eq_def]
  simp only
  rw [Koq (by omega),if_neg (by decide)]
  exact .of trivial
 | succ k ih =>
  intro i hi
  obtain ⟨g,rfl⟩:∃ g:Nat,f=(g:Int):=⟨f.toNat,by omega⟩
  have e:Int.tmod (wr ((g:Int) + (i:Int))) (ctx.length:Int)=(((g + i) % ctx.length:Nat):Int):=by
   rw [Kt2 (by omega) (by omega),V1s]
  have hm:(g + i) % ctx.length < ctx.length:=Nat.mod_lt _ (by omega)
  have ck:chk ((ctx.length:Int) ≠ 0)=some ():=by unfold chk; rw [if_pos (by omega)]
  rw [Kfa.eq_def]
  simp only
  rw [Kop (by omega),if_pos rfl,ck,bs,e,Kon hm,bs,Kuy _ ty (by omega),bs]
  refine .ite (fun _=>?_) (fun _=>?_)
  ·rw [sOp,bs]
   exact .of ⟨V3v hm,h⟩
  ·rw [Koo (by omega)]
   exact ih (i + 1) (by omega)
include hs
theorem V4f {deep:Int} {b:Nat} {ctx:List (List Int)} {p q:List Int} {g:Nat} (hg:g < n) (P:Ky7 s (3 + (g:Int)) p q) (hg15:g ≤ 15) (hc:V3t s ctx) (hl:ctx.length ≤ 900) (hb:b ≤ 300000) (hb1:1 ≤ b) (hd:-900 ≤ deep∧deep ≤ 100)
  (H:∀ c,V10 c→Gv (Kfi (c,s,p :: ctx,q,wr (deep - 1))) (Dr s (ctx.length + 1) b)) (c:K01) (h:V10 c):Gv (Kfj (c,s,ctx,(3 + (g:Int)) :: (p ++ q),deep)) (Dr s ctx.length (1 + b)):=by
 have hlp:=Ky4 P.ya
 have hlq:=Ky4 P.yb
 have hc':V3t s (p :: ctx):=V3u hc P.ya
 have loop:∀ (k i:Nat) (c:K01) (u1 u2:Int) (u3:List Int) (u4:List K00),i + k=3→V10 c→V3s s (ctx.length + 1) b ⟨u1,u2,u3,u4⟩ →
   Gv (Kfk (s,deep,p,q,(g:Int),p :: ctx,c.fb,c.fi,c.fh,u1,u2,u3,u4,(i:Int))) (fun r=>V3s s (ctx.length + 1) b ⟨r.1,r.2.1,r.2.2.1,r.2.2.2.1⟩∧V10 ⟨r.2.2.2.2.1,r.2.2.2.2.2.1,r.2.2.2.2.2.2⟩):=by
  intro k
  induction k with
  | zero =>
   intro i c u1 u2 u3 u4 hi h ht
   rw [Kfk.eq_def]
   simp only
   rw [decide_eq_false (by omega),if_neg (by decide),bs,if_neg (by decide)]
   exact .of ⟨ht,h⟩
  | succ k ih =>
   intro i c u1 u2 u3 u4 hi h ht
   rw [Kfk.eq_def]
   simp only
   obtain ⟨m,m1,m2⟩:=V44 hs hc' (by simp; omega) (by omega) (t:=⟨u1,u2,u3,u4⟩) (b:=b) (by simpa using ht) 0 (by simp)
   rw [show ((0:Nat):Int)=0 from rfl] at m2
   rw [decide_eq_true (by omega),if_pos rfl,m2,bs,sLe hs.tab m1 hg,bs,bs]
   refine .ite (fun _=>?_) (fun _=>.of ⟨ht,h⟩)
   refine Gv.bind (H c h) ?_
   rintro ⟨⟨x1,x2,x3,x4⟩,c2⟩ ⟨ht2,h2⟩
   simp only at ht2 h2 ⊢
   refine Gv.bind (Q:=fun _=>True) (.ite (fun _=>?_) (fun _=>.of trivial)) (fun v _=>?_)
   ·rw [Kuy p q (by omega),bs]; exact .of trivial
   refine Gv.bind (Q:=fun r:Int × Int × List Int × List K00=>V3s s (ctx.length + 1) b ⟨r.1,r.2.1,r.2.2.1,r.2.2.2⟩) (.ite (fun _=>?_) (fun _=>.of ht2)) ?_
   ·rw [sOp,bs]
    exact .of ((V3v (i:=0) (by omega)).mono hb1)
   ·rintro ⟨a1,a2,a3,a4⟩ ha
    simp only at ha ⊢
    rw [Koo (by omega)]
    exact ih (i + 1) c2 a1 a2 a3 a4 (by omega) h2 ha
 rw [Kfj.eq_def]
 simp only
 have i0:idx ((3 + (g:Int)) :: (p ++ q)) 0=some (3 + (g:Int)):=rfl
 rw [P.p0,bs,P.p1,bs,i0,bs,V0r g hg15,bs,Kxt ctx [p] (by simp; omega),bs]
 refine Gv.bind (H c h) ?_
 rintro ⟨⟨x1,x2,x3,x4⟩,c1⟩ ⟨ht,h1⟩
 simp only at ht h1 ⊢
 refine Gv.bind (loop 3 0 c1 x1 x2 x3 x4 rfl h1 ht) ?_
 rintro ⟨a1,a2,a3,a4,a5,a6,a7⟩ ⟨q1,q2⟩
 exact .of ⟨V4d hs hg P.ya q1,q2⟩
theorem V4g {deep:Int} {f:List Int→Nat} {B:Nat} {ctx:List (List Int)} {ty:List Int} (hd:-900 ≤ deep∧deep ≤ 100) (hc:V3t s ctx) (hl:ctx.length ≤ 900) (hty:TyS s ty)
  (hB:1 ≤ B) (hf1:∀ q,1 ≤ q.length→1 ≤ f q) (hf:∀ q,f q ≤ 300000) (hB2:∀ a b:List Int,a.length + b.length + 1=ty.length→1 + f a + f b ≤ B) (hB1:∀ a:List Int,a.length < ty.length→1 + f a ≤ B) (hBa:0 < deep→1 + f ty + f ty ≤ B)
  (H:∀ c ctx' ty',V10 c→V3t s ctx'→ctx'.length ≤ ctx.length + 1→(ctx'.length=ctx.length∨ty'.length + 2 ≤ ty.length)→TyS s ty'→(ty'.length < ty.length∨0 < deep∧ty'=ty)→Gv (Kfi (c,s,ctx',ty',wr (deep - 1))) (Dr s ctx'.length (f ty')))
  (HA:0 < deep→∀ c,V10 c→Gv (Kfl (c,s,ctx,ty,wr (deep - 1))) (Dr s ctx.length B)) (c:K01) (h:V10 c):Gv (Kfi (c,s,ctx,ty,deep)) (Dr s ctx.length B):=by
 have htl:=Ky4 hty
 rw [Kfi.eq_def]
 simp only
 refine Gv.bind (V17 h 5) ?_
 rintro ⟨x,c1⟩ ⟨hx,h1⟩
 simp only at hx h1 ⊢
 refine Gv.bind (Q:=fun fl:(List Int × Int × Int) ⊕ (K00 × K01)=>match fl with | .inl r=>V10 ⟨r.1,r.2.1,r.2.2⟩ | .inr r=>Dr s ctx.length B r) (.ite (fun _=>?_) (fun _=>.of h1)) ?_
 ·refine Gv.bind (V17 h1 _) ?_
  rintro ⟨y,c2⟩ ⟨hy,h2⟩
  simp only at hy h2 ⊢
  by_cases h0:ctx.length=0
  ·have e:Kfa (c,s,ctx,ty,deep,y,c2,0)=some (.inl ()):=by
    rw [Kfa.eq_def]
    simp only
    rw [decide_eq_false (by omega),if_neg (by decide)]
   rw [e,bs]
   exact .of h2
  ·have l0:=V4e (s:=s) (c0:=c) h2 (ctx:=ctx) (ty:=ty) (deep:=deep) (by omega) (by omega) (hy.1 (by omega)) (fun q hq=>by have:=Ky4 (hc q hq); omega) ctx.length 0 (by omega)
   rw [show ((0:Nat):Int)=0 from rfl] at l0
   refine Gv.bind l0 ?_
   rintro (u | r) hr
   ·exact .of h2
   ·exact .of ⟨hr.1.mono hB,hr.2⟩
 rintro (⟨a1,a2,a3⟩ | r) q
 rotate_left
 ·exact .of q
 simp only at q ⊢
 refine Gv.bind (Q:=fun r:List Int × Int × Int × Bool=>V10 ⟨r.1,r.2.1,r.2.2.1⟩∧(r.2.2.2=true→0 < deep)) (.ite (fun hb=>?_) (fun _=>.of ⟨q,fun h=>by cases h⟩)) ?_
 ·have hb:=of_decide_eq_true hb
  exact Gv.bind (V18 q 3) (by rintro ⟨v,c2⟩ h2; exact .of ⟨h2,fun _=>hb⟩)
 rintro ⟨b1,b2,b3,v⟩ ⟨h3,hv⟩
 simp only at h3 hv ⊢
 refine .ite (fun hvt=>?_) (fun _=>?_)
 ·refine Gv.bind (HA (hv hvt) _ h3) ?_
  rintro ⟨t,c4⟩ ht
  exact .of ht
 obtain ⟨c0,t0,rfl⟩:∃ c0 t0,ty=c0 :: t0:=by
  cases ty with
  | nil=>have:=V3r hty; simp at this
  | cons c0 t0=>exact ⟨c0,t0,rfl⟩
 rw [show idx (c0 :: t0) 0=some c0 from rfl,bs]
 have add:Gv ((if (c0 == 0)=true then if decide (deep > 0)=true then K8k (⟨b1,b2,b3⟩,2) >>= fun (r:Bool × K01)=>some (r.2.fb,r.2.fi,r.2.fh,r.1) else some (b1,b2,b3,false) else some (b1,b2,b3,false)):Option (List Int × Int × Int × Bool)) (fun r=>V10 ⟨r.1,r.2.1,r.2.2.1⟩∧(r.2.2.2=true→0 < deep)):=by
  refine .ite (fun _=>.ite (fun hb=>?_) (fun _=>.of ⟨h3,fun h=>by cases h⟩)) (fun _=>.of ⟨h3,fun h=>by cases h⟩)
  have hb:=of_decide_eq_true hb
  exact Gv.bind (V18 h3 2) (by rintro ⟨v,c2⟩ h2; exact .of ⟨h2,fun _=>hb⟩)
 refine Gv.bind add ?_
 rintro ⟨d1,d2,d3,w⟩ ⟨h4,hw⟩
 simp only at h4 hw ⊢
 refine .ite (fun hwt=>?_) (fun _=>?_)
 ·have hp:=hw hwt
  refine Gv.bind (H _ ctx _ h4 hc (by omega) (.inl rfl) hty (.inr ⟨hp,rfl⟩)) ?_
  rintro ⟨t1,e1⟩ ⟨ht1,k1⟩
  simp only at ht1 k1 ⊢
  refine Gv.bind (H _ ctx _ k1 hc (by omega) (.inl rfl) hty (.inr ⟨hp,rfl⟩)) ?_
  rintro ⟨t2,e2⟩ ⟨ht2,k2⟩
  simp only at ht2 k2 ⊢
  rw [sOp,bs]
  exact .of ⟨(V3x (.inl rfl) ht1 ht2).mono (hBa hp),k2⟩
 rcases Kyd hs hty with e | ⟨a,b,e,P⟩ | ⟨a,b,e,P⟩ | ⟨g,a,b,hg,h15,e,P⟩ | ⟨g,a,hg,h15,e,P⟩
 ·cases e
  rw [if_pos (by decide)]
  refine Gv.bind (V17 h4 3) ?_
  rintro ⟨y,c2⟩ ⟨hy,h2⟩
  simp only at hy h2 ⊢
  rw [sOp,bs]
  exact .of ⟨(V3w (hy.1 (by decide))).mono hB,h2⟩
 ·have hlen:a.length + b.length + 1=(c0 :: t0).length:=by rw [e]; simp
  have la:a.length < (c0 :: t0).length:=by omega
  have lb:b.length < (c0 :: t0).length:=by omega
  cases e
  rw [if_neg (by decide),if_pos (by decide),P.p0,bs]
  refine Gv.bind (H _ ctx _ h4 hc (by omega) (.inl rfl) P.ya (.inl la)) ?_
  rintro ⟨t1,e1⟩ ⟨ht1,k1⟩
  simp only at ht1 k1 ⊢
  rw [P.p1,bs]
  refine Gv.bind (H _ ctx _ k1 hc (by omega) (.inl rfl) P.yb (.inl lb)) ?_
  rintro ⟨t2,e2⟩ ⟨ht2,k2⟩
  simp only at ht2 k2 ⊢
  rw [sOp,bs]
  exact .of ⟨(V3x (.inr (.inl rfl)) ht1 ht2).mono (hB2 a b hlen),k2⟩
 ·have hlen:a.length + b.length + 1=(c0 :: t0).length:=by rw [e]; simp
  have la:a.length < (c0 :: t0).length:=by omega
  have lb:b.length < (c0 :: t0).length:=by omega
  cases e
  rw [if_neg (by decide),if_neg (by decide)]
  refine Gv.bind (Q:=fun r:List Int × Int × Int × Bool=>V10 ⟨r.1,r.2.1,r.2.2.1⟩) (.ite (fun _=>?_) (fun _=>.of h4)) ?_
  ·exact Gv.bind (V18 h4 2) (by rintro ⟨v,c2⟩ h2; exact .of h2)
  rintro ⟨f1,f2,f3,z⟩ h5
  simp only at h5 ⊢
  refine .ite (fun _=>?_) (fun _=>?_)
  ·rw [P.p1,bs,P.p0,bs]
   refine Gv.bind (H _ ctx _ h5 hc (by omega) (.inl rfl) P.ya (.inl la)) ?_
   rintro ⟨t1,e1⟩ ⟨ht1,k1⟩
   simp only at ht1 k1 ⊢
   exact .of ⟨(V3z (.inl rfl) P.yb ht1).mono (hB1 a la),k1⟩
  ·rw [if_pos (by decide),P.p0,bs,P.p1,bs]
   refine Gv.bind (H _ ctx _ h5 hc (by omega) (.inl rfl) P.yb (.inl lb)) ?_
   rintro ⟨t1,e1⟩ ⟨ht1,k1⟩
   simp only at ht1 k1 ⊢
   exact .of ⟨(V3z (.inr rfl) P.ya ht1).mono (hB1 b lb),k1⟩
 ·have hlen:a.length + b.length + 1=(c0 :: t0).length:=by rw [e]; simp
  have hal:=V3r P.ya
  have lb:b.length < (c0 :: t0).length:=by omega
  have lb2:b.length + 2 ≤ (c0 :: t0).length:=by omega
  cases e
  have hbx:Kcq (3 + (g:Int))=some false:=by rw [Kpt,V0p g h15]
  rw [if_neg (by simp; omega),if_neg (by simp; omega),if_neg (by simp; omega),bs]
  simp only
  rw [if_neg (by decide),if_neg (by simp; omega),hbx,bs,if_neg (by decide)]
  have F:=V4f hs hg P h15 hc hl (b:=f b) (hf b) (hf1 b (V3r P.yb)) hd (fun c hcc=>H c (a :: ctx) b hcc (V3u hc P.ya) (by simp) (.inr lb2) P.yb (.inl lb)) _ h4
  refine Gv.bind F ?_
  rintro ⟨t1,e1⟩ ⟨ht1,k1⟩
  exact .of ⟨ht1.mono (hB1 b lb),k1⟩
 ·have hlen:a.length + 1=(c0 :: t0).length:=by rw [e]; simp
  have la:a.length < (c0 :: t0).length:=by omega
  cases e
  have hbx:Kcq (19 + (g:Int))=some true:=by rw [Kpt,V0q g h15]
  rw [if_neg (by simp; omega),if_neg (by simp; omega),if_neg (by simp; omega),bs]
  simp only
  rw [if_neg (by decide),if_neg (by simp; omega),hbx,bs,if_pos rfl,V0s g h15,bs,P.p0,bs]
  refine Gv.bind (H _ ctx _ h4 hc (by omega) (.inl rfl) P.ya (.inl la)) ?_
  rintro ⟨t1,e1⟩ ⟨ht1,k1⟩
  simp only at ht1 k1 ⊢
  rw [sOp,bs]
  exact .of ⟨(V4c hs hg ht1).mono (hB1 _ la),k1⟩
end
mutual
theorem V4h {g g':Int→Bool} {y y':List Int→Bool} (hg:∀ x,g x=true→g' x=true) (hy:∀ q,y q=true→y' q=true):∀ (t:K00) (n:Nat),tOk g y n t=true→tOk g' y' n t=true
 | ⟨op,N,ty,ks⟩,n,h=>by
  rw [Kv2,Bool.and_eq_true] at h ⊢
  refine ⟨?_,V4i hg hy ks op n 0 h.2⟩
  have h1:=h.1
  unfold Kr9 Kr7 Kr8 at h1 ⊢
  simp only [Bool.and_eq_true] at h1 ⊢
  refine ⟨⟨h1.1.1,?_⟩,?_⟩
  ·have h2:=h1.1.2
   split at h2
   ·rename_i q; rw [if_pos q]; exact h2
   ·rename_i q
    rw [if_neg q]
    split at h2
    ·rename_i q2; rw [if_pos q2]; exact h2
    ·rename_i q2
     rw [if_neg q2]
     split at h2
     ·rename_i q3; rw [if_pos q3]; exact hg _ h2
     ·rename_i q3; rw [if_neg q3]; exact h2
  ·have h2:=h1.2
   split at h2
   ·rename_i q; rw [if_pos q]; exact hy _ h2
   ·rename_i q; rw [if_neg q]; exact h2
theorem V4i {g g':Int→Bool} {y y':List Int→Bool} (hg:∀ x,g x=true→g' x=true) (hy:∀ q,y q=true→y' q=true):∀ (ks:List K00) (op:Int) (n i:Nat),Kra g y op n i ks=true→Kra g' y' op n i ks=true
 | [],op,n,i,_=>by rw [Kra]
 | k :: ks,op,n,i,h=>by
  rw [Kv3,Bool.and_eq_true] at h ⊢
  exact ⟨V4h hg hy k _ h.1,V4i hg hy ks op n (i + 1) h.2⟩
end
theorem V3s.tms {s:K02} {m b:Nat} {t:K00} (h:V3s s m b t):tms t ≤ 43 * b:=by
 have h1:=V4h (g':=gN s.fSize true) (y':=wtB) (fun _ h=>h) (fun q hq=>by unfold yN at hq; rw [Bool.and_eq_true] at hq; exact hq.1) t m h.1
 have:=(Kvt t m h1).1
 have:=h.2
 omega
theorem V4j {s:K02} {m b:Nat} {t:K00} (h:V3s s m b t) (hm:m ≤ 1000) (hb:b ≤ 100000):∃ u,Kez (t,1,0)=some u∧V3s s (m + 1) b u:=by
 have h2:=h.2
 have h3:=h.tms
 refine ⟨shf ((1:Nat):Int) 0 t,?_,?_,?_⟩
 ·exact Ktg 1 1000000 (by decide) (by decide) t 0 (Kti (by omega) t (Ktk _ _ t m h.1)) (by omega) (by decide) (by omega)
 ·exact Kvi _ _ 1 t m 0 h.1
 ·rw [Kve]; exact h.2
def V4k (s:K02) (D b:Nat):Prop:=∀ (deep:Int) (ctx:List (List Int)) (ty:List Int),deep ≤ D→-500 ≤ deep→ty.length ≤ 7→V3t s ctx→ctx.length + 20 * D + 7 ≤ 500→TyS s ty→∀ c,V10 c→Gv (Kfi (c,s,ctx,ty,deep)) (Dr s ctx.length b)
section
variable {s:K02} {n:Nat} (hs:Kwv s n)
include hs
theorem V4l:∀ (L:Nat) (deep:Int) (ctx:List (List Int)) (ty:List Int),ty.length ≤ L→L ≤ 40→deep ≤ 0→-900 + (ty.length:Int) ≤ deep→V3t s ctx→ctx.length + ty.length ≤ 900→TyS s ty→∀ c,V10 c→Gv (Kfi (c,s,ctx,ty,deep)) (Dr s ctx.length ty.length):=by
 intro L
 induction L with
 | zero =>
  intro deep ctx ty h1 _ _ _ _ _ ht
  have:=V3r ht
  omega
 | succ L ih =>
  intro deep ctx ty h1 hL hd0 hd hc hl ht c h
  have htp:=V3r ht
  refine V4g hs (f:=fun q=>min q.length 300000) (B:=ty.length) (by omega) hc (by omega) ht htp (fun q hq=>by omega) (fun q=>by omega) (fun a b hab=>by omega) (fun a ha=>by omega) (fun h=>absurd h (by omega)) (fun c' ctx' ty' hc' hcx hlx hor hty' hlt=>?_) (fun h=>absurd h (by omega)) c h
  have hty:ty'.length < ty.length:=by
   rcases hlt with h | h
   ·exact h
   ·omega
  rw [Kom (by omega) (by omega)]
  have:=ih (deep - 1) ctx' ty' (by omega) (by omega) (by omega) (by omega) hcx (by omega) hty' c' hc'
  refine this.mono (fun r hr=>⟨hr.1.mono ?_,hr.2⟩)
  have:=Ky4 hty'
  omega
theorem V4m:V4k s 0 7:=fun deep ctx ty h1 h2 h3 h4 h5 h6 c h =>
 (V4l hs 7 deep ctx ty h3 (by decide) (by omega) (by omega) h4 (by omega) h6 c h).mono (fun r hr=>⟨hr.1.mono h3,hr.2⟩)
theorem V4n {c:K01} (h:V10 c) (data:Bool):Gv (Kc3 (c,s,1,data)) (fun r=>(TyS s r.1∧r.1.length ≤ 3)∧V10 r.2) :=
 (V42 hs 1 c data (by decide) h).mono (fun r hr=>⟨⟨hr.1.1,by have:=hr.1.2; omega⟩,hr.2⟩)
theorem V4o {c:K01} (h:V10 c) (data:Bool):Gv (Kc3 (c,s,2,data)) (fun r=>(TyS s r.1∧r.1.length ≤ 7)∧V10 r.2) :=
 (V42 hs 2 c data (by decide) h).mono (fun r hr=>⟨⟨hr.1.1,by have:=hr.1.2; omega⟩,hr.2⟩)
theorem V4p {D b:Nat} (IH:V4k s D b) (hb1:7 ≤ b) (hb:b ≤ 90000) {deep:Int} (hd:0 ≤ deep∧deep ≤ D) (hD:D ≤ 10) {ctx:List (List Int)} {ty:List Int} (hc:V3t s ctx) (hl:ctx.length + 2 + 20 * D + 7 ≤ 500) (ht:TyS s ty) (htl:ty.length ≤ 7) (c:K01) (h:V10 c) :
  Gv (Kfl (c,s,ctx,ty,deep)) (Dr s ctx.length (5 + 3 * b)):=by
 have h1n:1 < n:=hs.tab.lo
 have hn16:=hs.tab.hi
 rw [Kfl.eq_def]
 simp only
 refine Gv.bind (V17 h 6) ?_
 rintro ⟨x,c0⟩ ⟨hx,h0⟩
 simp only at hx h0 ⊢
 refine .ite (fun _=>?_) (fun _=>.ite (fun _=>?_) (fun _=>.ite (fun _=>?_) (fun _=>.ite (fun _=>?_) (fun _=>?_))))
 ·refine Gv.bind (IH deep ctx [0] hd.2 (by omega) (by decide) hc (by omega) Kya _ h0) ?_
  rintro ⟨t1,c1⟩ ⟨k1,h1⟩
  simp only at k1 h1 ⊢
  refine Gv.bind (IH deep ctx ty hd.2 (by omega) htl hc (by omega) ht _ h1) ?_
  rintro ⟨t2,c2⟩ ⟨k2,h2⟩
  simp only at k2 h2 ⊢
  refine Gv.bind (IH deep ctx ty hd.2 (by omega) htl hc (by omega) ht _ h2) ?_
  rintro ⟨t3,c3⟩ ⟨k3,h3⟩
  simp only at k3 h3 ⊢
  rw [sOp,bs]
  exact .of ⟨(V3y k1 k2 k3).mono (by omega),h3⟩
 ·refine Gv.bind (V18 h0 2) ?_
  rintro ⟨v,c1⟩ h1
  simp only at h1 ⊢
  refine Gv.bind (V4n hs h1 v) ?_
  rintro ⟨a,c2⟩ ⟨⟨ta,la⟩,h2⟩
  simp only at ta la h2 ⊢
  refine Gv.bind (V4n hs h2 true) ?_
  rintro ⟨e,c3⟩ ⟨⟨te,le_⟩,h3⟩
  simp only at te le_ h3 ⊢
  have hc':V3t s (e :: a :: ctx):=V3u (V3u hc ta) te
  rw [Kxt ctx [e,a] (by simp; omega),bs]
  refine Gv.bind (IH deep (e :: a :: ctx) ty hd.2 (by omega) htl hc' (by simp; omega) ht _ h3) ?_
  rintro ⟨t1,c4⟩ ⟨k1,h4⟩
  simp only at k1 h4 ⊢
  obtain ⟨g0,z0,n0⟩:=V44 hs hc' (by simp; omega) (by omega) (t:=t1) (b:=b) (by simpa using k1) 0 (by simp)
  obtain ⟨g1,z1,n1⟩:=V44 hs hc' (by simp; omega) (by omega) (t:=t1) (b:=b) (by simpa using k1) 1 (by simp)
  have n0:Kel (s,[e,a] ++ ctx,t1,0)=some (g0:Int):=n0
  have n1:Kel (s,[e,a] ++ ctx,t1,1)=some (g1:Int):=n1
  obtain ⟨g2,z2,n2⟩:=V45 hs z0 z1
  obtain ⟨g3,z3,n3⟩:=V45 hs h1n z2
  rw [n0,bs,n1,bs,n2,bs,show (1:Int)=((1:Nat):Int) from rfl,n3,bs]
  refine Gv.bind (V47 hs h4 z3) ?_
  rintro ⟨q,c5⟩ ⟨⟨g4,z4,rfl⟩,h5⟩
  simp only at h5 ⊢
  rw [show ((1:Nat):Int)=1 from rfl,V3k _ _ _ (by omega),bs]
  refine Gv.bind (IH deep ctx (1 :: (a ++ e)) hd.2 (by omega) (by simp; omega) hc (by omega) (V3n rfl V3p ta te (by omega)) _ h5) ?_
  rintro ⟨t2,c6⟩ ⟨k2,h6⟩
  simp only at k2 h6 ⊢
  rw [sOp,bs]
  exact .of ⟨(V49 hs z4 k2 (by simpa using k1)).mono (by omega),h6⟩
 ·refine Gv.bind (V4n hs h0 true) ?_
  rintro ⟨a,c2⟩ ⟨⟨ta,la⟩,h2⟩
  simp only at ta la h2 ⊢
  refine Gv.bind (V4n hs h2 true) ?_
  rintro ⟨e,c3⟩ ⟨⟨te,le_⟩,h3⟩
  simp only at te le_ h3 ⊢
  have hca:V3t s (a :: ctx):=V3u hc ta
  have hce:V3t s (e :: ctx):=V3u hc te
  rw [Kxt ctx [a] (by simp; omega),bs,Kxt ctx [e] (by simp; omega),bs]
  refine Gv.bind (IH deep (a :: ctx) ty hd.2 (by omega) htl hca (by simp; omega) ht _ h3) ?_
  rintro ⟨t1,c4⟩ ⟨k1,h4⟩
  simp only at k1 h4 ⊢
  refine Gv.bind (IH deep (e :: ctx) ty hd.2 (by omega) htl hce (by simp; omega) ht _ h4) ?_
  rintro ⟨t2,c5⟩ ⟨k2,h5⟩
  simp only at k2 h5 ⊢
  obtain ⟨g0,z0,n0⟩:=V44 hs hca (by simp; omega) (by omega) (t:=t1) (b:=b) (by simpa using k1) 0 (by simp)
  obtain ⟨g1,z1,n1⟩:=V44 hs hce (by simp; omega) (by omega) (t:=t2) (b:=b) (by simpa using k2) 0 (by simp)
  have n0:Kel (s,[a] ++ ctx,t1,0)=some (g0:Int):=n0
  have n1:Kel (s,[e] ++ ctx,t2,0)=some (g1:Int):=n1
  obtain ⟨g2,z2,n2⟩:=V45 hs z0 z1
  obtain ⟨g3,z3,n3⟩:=V45 hs h1n z2
  rw [n0,bs,n1,bs,n2,bs,show (1:Int)=((1:Nat):Int) from rfl,n3,bs]
  refine Gv.bind (V47 hs h5 z3) ?_
  rintro ⟨q,c6⟩ ⟨⟨g4,z4,rfl⟩,h6⟩
  simp only at h6 ⊢
  rw [V3k _ _ _ (by omega),bs]
  refine Gv.bind (IH deep ctx (2 :: (a ++ e)) hd.2 (by omega) (by simp; omega) hc (by omega) (V3n rfl V3q ta te (by omega)) _ h6) ?_
  rintro ⟨t3,c7⟩ ⟨k3,h7⟩
  simp only at k3 h7 ⊢
  rw [sOp,bs]
  exact .of ⟨(V4a hs z4 k3 (by simpa using k1) (by simpa using k2)).mono (by omega),h7⟩
 ·refine Gv.bind (V18 h0 2) ?_
  rintro ⟨v,c1⟩ h1
  simp only at h1 ⊢
  refine Gv.bind (V4n hs h1 v) ?_
  rintro ⟨a,c2⟩ ⟨⟨ta,la⟩,h2⟩
  simp only at ta la h2 ⊢
  have hca:V3t s (a :: ctx):=V3u hc ta
  rw [Kxt ctx [a] (by simp; omega),bs]
  refine Gv.bind (IH deep (a :: ctx) ty hd.2 (by omega) htl hca (by simp; omega) ht _ h2) ?_
  rintro ⟨t1,c4⟩ ⟨k1,h4⟩
  simp only at k1 h4 ⊢
  obtain ⟨g0,z0,n0⟩:=V44 hs hca (by simp; omega) (by omega) (t:=t1) (b:=b) (by simpa using k1) 0 (by simp)
  have n0:Kel (s,[a] ++ ctx,t1,0)=some (g0:Int):=n0
  rw [n0,bs]
  refine Gv.bind (V47 hs h4 z0) ?_
  rintro ⟨q,c6⟩ ⟨⟨g4,z4,rfl⟩,h6⟩
  simp only at h6 ⊢
  obtain ⟨k19,l19⟩:=V41 hs z4
  rw [Kom (by omega) (by omega),V3j _ _ (by omega),bs]
  refine Gv.bind (IH deep ctx ((19 + (g4:Int)) :: a) hd.2 (by omega) (by simp; omega) hc (by omega) (V3o k19 l19 ta (by omega)) _ h6) ?_
  rintro ⟨t2,c7⟩ ⟨k2,h7⟩
  simp only at k2 h7 ⊢
  rw [sOp,bs]
  exact .of ⟨(V4b hs h1n k2 (by simpa using k1)).mono (by omega),h7⟩
 ·refine Gv.bind (V18 h0 2) ?_
  rintro ⟨v,c1⟩ h1
  simp only at h1 ⊢
  refine Gv.bind (V4o hs h1 v) ?_
  rintro ⟨a,c2⟩ ⟨⟨ta,la⟩,h2⟩
  simp only at ta la h2 ⊢
  have hca:V3t s (a :: ctx):=V3u hc ta
  rw [Kxt ctx [a] (by simp; omega),bs]
  refine Gv.bind (IH deep (a :: ctx) ty hd.2 (by omega) htl hca (by simp; omega) ht _ h2) ?_
  rintro ⟨t1,c4⟩ ⟨k1,h4⟩
  simp only at k1 h4 ⊢
  obtain ⟨g0,z0,n0⟩:=V44 hs hca (by simp; omega) (by omega) (t:=t1) (b:=b) (by simpa using k1) 0 (by simp)
  have n0:Kel (s,[a] ++ ctx,t1,0)=some (g0:Int):=n0
  rw [n0,bs]
  refine Gv.bind (V47 hs h4 z0) ?_
  rintro ⟨q,c6⟩ ⟨⟨g4,z4,rfl⟩,h6⟩
  simp only at h6 ⊢
  obtain ⟨k3,l3⟩:=V40 hs z4
  refine Gv.bind (V18 h6 4) ?_
  rintro ⟨w,c7⟩ h7
  simp only at h7 ⊢
  have arg:=IH (deep - 1) ctx a (by omega) (by omega) la hc (by omega) ta c7 h7
  have ew:wr (deep - 1)=deep - 1:=Kom (by omega) (by omega)
  have kf:=V4d hs z4 ta (b1:=b) (by simpa using k1)
  refine Gv.bind (Q:=fun fl:Unit ⊕ (K00 × K01)=>match fl with | .inl _=>True | .inr r=>Dr s ctx.length (5 + 3 * b) r) (.ite (fun _=>?_) (fun _=>.of trivial)) ?_
  ·rw [Kom (by omega) (by omega),V3k _ _ _ (by omega),bs]
   refine .ite (fun hlt=>?_) (fun _=>.of trivial)
   have hlt:=of_decide_eq_true hlt
   rw [sOp,bs,ew]
   refine Gv.bind arg ?_
   rintro ⟨t2,c8⟩ ⟨k2,h8⟩
   simp only at k2 h8 ⊢
   obtain ⟨u,e1,e2⟩:=V4j k2 (by omega) (by omega)
   rw [e1,bs,sOp,bs,sOp,bs]
   have kc:=V3x (.inr (.inr rfl)) (V3v (s:=s) (m:=ctx.length + 1) (i:=0) (by omega)) e2
   have kg:=V4d hs h1n (V3n k3 l3 ta ht (by simp at hlt; omega)) kc
   exact .of ⟨(V3x (.inr (.inr rfl)) kg kf).mono (by omega),h8⟩
  ·rintro (u | r) q
   ·rw [ew]
    refine Gv.bind arg ?_
    rintro ⟨t2,c8⟩ ⟨k2,h8⟩
    simp only at k2 h8 ⊢
    rw [sOp,bs]
    exact .of ⟨(V3x (.inr (.inr rfl)) kf k2).mono (by omega),h8⟩
   ·exact .of q
theorem V4q {D b:Nat} (IH:V4k s D b) (hb1:7 ≤ b) (hb:b ≤ 90000) (hD:D ≤ 10):V4k s (D + 1) (5 + 3 * b):=by
 intro deep ctx ty h1 h2 h3 hc hl ht c h
 by_cases hd:deep ≤ D
 ·exact (IH deep ctx ty hd h2 h3 hc (by omega) ht c h).mono (fun r hr=>⟨hr.1.mono (by omega),hr.2⟩)
 have hdw:wr (deep - 1)=deep - 1:=Kom (by omega) (by omega)
 refine V4g hs (f:=fun _=>b) (B:=5 + 3 * b) (by omega) hc (by omega) ht (by omega) (fun _ _=>by omega) (fun _=>by omega) (fun _ _ _=>by omega) (fun _ _=>by omega) (fun _=>by omega) (fun c' ctx' ty' hc' hcx hlx hor hty' hlt=>?_) (fun _ c' hc'=>?_) c h
 ·rw [hdw]
  refine IH (deep - 1) ctx' ty' (by omega) (by omega) ?_ hcx (by omega) hty' c' hc'
  rcases hlt with q | ⟨_,rfl⟩
  ·omega
  ·exact h3
 ·rw [hdw]
  exact V4p hs IH hb1 hb (by omega) hD hc (by omega) ht h3 c' hc'
theorem V4r:V4k s 4 767:=V4q hs (V4q hs (V4q hs (V4q hs (V4m hs) (by decide) (by decide) (by decide)) (by decide) (by decide) (by decide)) (by decide) (by decide) (by decide)) (by decide) (by decide) (by decide)
end
def V4s (s:K02) (m:Nat) (ctx:List (List Int)):Prop:=V3t s ctx∧ctx.length ≤ m∧∀ q ∈ ctx,q.length ≤ 7
section
variable {s:K02} {n:Nat} (hs:Kwv s n)
include hs
theorem V4t (data:Bool):∀ (k m:Nat) (c:K01) (out:List (List Int)),V10 c→V4s s m out→m + k ≤ 1000→Gv (Kc7 (s,data,c.fb,c.fi,c.fh,out,(k:Int))) (fun r=>V4s s (m + k) r.1∧V10 ⟨r.2.1,r.2.2.1,r.2.2.2⟩):=by
 intro k
 induction k with
 | zero =>
  intro m c out h ho hm
  rw [Kc7.eq_def]
  simp only
  rw [decide_eq_false (by omega),if_neg (by decide)]
  exact .of ⟨ho,h⟩
 | succ k ih =>
  intro m c out h ho hm
  have hl:=ho.2.1
  rw [Kc7.eq_def]
  simp only
  rw [decide_eq_true (by omega),if_pos rfl]
  refine Gv.bind (V4o hs h data) ?_
  rintro ⟨a,c1⟩ ⟨⟨ta,la⟩,h1⟩
  simp only at ta la h1 ⊢
  rw [Krs (by simp; omega),bs,show wr (((k + 1:Nat):Int) - 1)=(k:Int) from by rw [Kom (by omega) (by omega)]; omega]
  have:=ih (m + 1) c1 (out ++ [a]) h1 ⟨fun q hq=>by
   rcases List.mem_append.1 hq with hq | hq
   ·exact ho.1 q hq
   ·rw [List.mem_singleton.1 hq]; exact ta,by simp; omega,fun q hq=>by
   rcases List.mem_append.1 hq with hq | hq
   ·exact ho.2.2 q hq
   ·rw [List.mem_singleton.1 hq]; exact la⟩ (by omega)
  rw [show m + 1 + k=m + (k + 1) by omega] at this
  exact this
theorem V4u {c:K01} (h:V10 c) (most:Nat) (hm:most ≤ 10) (data:Bool):Gv (Kca (c,s,(most:Int),data)) (fun r=>V4s s most r.1∧V10 r.2):=by
 unfold Kca
 simp only
 rw [Koo (by omega)]
 refine Gv.bind (V17 h _) ?_
 rintro ⟨x,c1⟩ ⟨hx,h1⟩
 simp only at hx h1 ⊢
 have hx:=hx.1 (by omega)
 obtain ⟨k,rfl⟩:∃ k:Nat,x=(k:Int):=⟨x.toNat,by omega⟩
 have ho:V4s s 0 []:=⟨fun q hq=>(by cases hq),Nat.le_refl _,fun q hq=>(by cases hq)⟩
 refine Gv.bind (V4t hs data k 0 c1 [] h1 ho (by omega)) ?_
 rintro ⟨a,b,d,e⟩ ⟨q1,q2⟩
 have l1:=q1.2.1
 simp only at l1
 exact .of ⟨⟨q1.1,by simp only; omega,q1.2.2⟩,q2⟩
theorem V4v {c:K01} (h:V10 c) {ctx:List (List Int)} (hc:V3t s ctx) (hl:ctx.length ≤ 100) {deep:Nat} (hd:deep ≤ 4) (data:Bool):Gv (Kg7 (c,s,ctx,(deep:Int),data)) (Dr s ctx.length 767):=by
 have A:=V4r hs
 have loop:∀ (k i:Nat) (c0 c:K01) (u1 u2:Int) (u3:List Int) (u4:List K00),i + k=3→V10 c→V3s s ctx.length 767 ⟨u1,u2,u3,u4⟩ →
   Gv (Kg4 (c0,s,ctx,(deep:Int),data,c.fb,c.fi,c.fh,u1,u2,u3,u4,(i:Int))) (fun fl=>match fl with | .inl r=>V3s s ctx.length 767 ⟨r.1,r.2.1,r.2.2.1,r.2.2.2.1⟩∧V10 ⟨r.2.2.2.2.1,r.2.2.2.2.2.1,r.2.2.2.2.2.2⟩ | .inr r=>Dr s ctx.length 767 r):=by
  intro k
  induction k with
  | zero =>
   intro i c0 c u1 u2 u3 u4 hi h ht
   rw [Kg4.eq_def]
   simp only
   rw [decide_eq_false (by omega),if_neg (by decide)]
   exact .of ⟨ht,h⟩
  | succ k ih =>
   intro i c0 c u1 u2 u3 u4 hi h ht
   have htm:=ht.tms
   rw [Kg4.eq_def]
   simp only
   rw [decide_eq_true (by omega),if_pos rfl]
   refine Gv.bind (Q:=fun _=>True) ?_ (fun v _=>?_)
   ·rw [show (120:Int)=((120:Nat):Int) from rfl,Kqr _ 120 (by omega) (by decide),bs]
    refine .ite (fun _=>?_) (fun _=>.of trivial)
    obtain ⟨x,e,_⟩:=V43 hs hc (by omega) (by decide) ht
    rw [e,bs]
    exact .of trivial
   refine .ite (fun _=>.of ⟨ht,h⟩) (fun _=>?_)
   refine Gv.bind (V4n hs h data) ?_
   rintro ⟨a,c1⟩ ⟨⟨ta,la⟩,h1⟩
   simp only at ta la h1 ⊢
   rw [show (2:Int)=((2:Nat):Int) from rfl,Kt3,bs]
   refine Gv.bind (A ((min deep 2:Nat):Int) ctx a (by omega) (by omega) (by omega) hc (by omega) ta c1 h1) ?_
   rintro ⟨⟨x1,x2,x3,x4⟩,c2⟩ ⟨ht2,h2⟩
   simp only at ht2 h2 ⊢
   rw [Koo (by omega)]
   exact ih (i + 1) c0 c2 x1 x2 x3 x4 (by omega) h2 ht2
 unfold Kg7
 simp only
 refine Gv.bind (V4o hs h data) ?_
 rintro ⟨a,c1⟩ ⟨⟨ta,la⟩,h1⟩
 simp only at ta la h1 ⊢
 refine Gv.bind (A (deep:Int) ctx a (by omega) (by omega) la hc (by omega) ta c1 h1) ?_
 rintro ⟨⟨x1,x2,x3,x4⟩,c2⟩ ⟨ht2,h2⟩
 simp only at ht2 h2 ⊢
 have L:=loop 3 0 c c2 x1 x2 x3 x4 rfl h2 ht2
 rw [show ((0:Nat):Int)=0 from rfl] at L
 refine Gv.bind L ?_
 rintro (⟨a1,a2,a3,a4,a5,a6,a7⟩ | r) q
 rotate_left
 ·exact .of q
 obtain ⟨q1,q2⟩:=q
 simp only at q1 q2 ⊢
 have htm:=q1.tms
 rw [show (400:Int)=((400:Nat):Int) from rfl,Kqr _ 400 (by omega) (by decide),bs]
 refine Gv.bind (Q:=fun r:Int × Int × List Int × List K00=>V3s s ctx.length 767 ⟨r.1,r.2.1,r.2.2.1,r.2.2.2⟩) (.ite (fun _=>?_) (fun _=>.of q1)) ?_
 ·rw [sOp,bs]
  exact .of ((V3w (by decide)).mono (by decide))
 ·rintro ⟨b1,b2,b3,b4⟩ qb
  exact .of ⟨qb,q2⟩
end
theorem V4w {c:K01} (h:V10 c) {deep:Nat} (hd:deep ≤ 4) (most:Nat) (hm:most ≤ 10) (data:Bool):Gv (Kga (c,(deep:Int),(most:Int),data)) (fun r=>r.1 ∈ V3c∧V4s r.1 most r.2.1∧V3s r.1 r.2.1.length 767 r.2.2.1∧V10 r.2.2.2):=by
 unfold Kga
 simp only
 refine Gv.bind (V3i h) ?_
 rintro ⟨s,c1⟩ ⟨hsy,h1⟩
 simp only at hsy h1 ⊢
 have hs:=Kww (V3d hsy).1
 refine Gv.bind (V4u hs h1 most hm data) ?_
 rintro ⟨ctx,c2⟩ ⟨hc,h2⟩
 simp only at hc h2 ⊢
 refine Gv.bind (V4v hs h2 hc.1 (by have:=hc.2.1; omega) hd data) ?_
 rintro ⟨t,c3⟩ ⟨ht,h3⟩
 exact .of ⟨hsy,hc,ht,h3⟩
theorem V4x (code:List Int) (hl:code.length ≤ 1048576):∃ d:Nat,(2 ≤ d∧d ≤ 4)∧K8b code=some (d:Int):=by
 unfold K8b
 have h1:code.length / 60 ≤ 1048576:=Nat.le_trans (Nat.div_le_self _ _) hl
 rw [show (60:Int)=((60:Nat):Int) from rfl,V21]
 generalize code.length / 60=q at *
 rw [Kom (by omega) (by omega),show (2:Int)=((2:Nat):Int) from rfl,Kt3,bs,← Int.natCast_add,Kom (by omega) (by omega)]
 exact ⟨2 + min q 2,by omega,rfl⟩
section
variable {s:K02} {n:Nat} (hs:Kwv s n)
include hs
theorem le_refl {a:Nat} (ha:a < n):le s n a a=true:=by
 have:=hs.one a ha
 simp only [Kp5,Bool.and_eq_true] at this
 exact this.2
end
theorem le_trans {s:K02} (h:Ksj s=true) {a b c:Nat} (ha:a < s.fSize.toNat) (hb:b < s.fSize.toNat) (hc:c < s.fSize.toNat) (h1:le s s.fSize.toNat a b=true) (h2:le s s.fSize.toNat b c=true):le s s.fSize.toNat a c=true:=by
 unfold Ksj at h
 simp only [Bool.and_eq_true] at h
 have hm:=h.2
 unfold Kpj at hm
 rw [List.all_eq_true] at hm
 have q:=hm a (by rw [List.mem_range'_1]; omega)
 simp only [Bool.and_eq_true,List.all_eq_true] at q
 have q2:=(q.2 b (by rw [List.mem_range'_1]; omega)).2 c (by rw [List.mem_range'_1]; omega)
 unfold Kp6 at q2
 simp [h1,h2] at q2
 exact q2.2.1.1.1
mutual
theorem V4y (g:Int→Bool) (y:List Int→Bool) (hg:∀ x,g x=true→-9223372036854775808 ≤ x∧x ≤ 9223372036854775807):∀ (t:K00) (n:Nat),tOk g y n t=true→n + 2 * tms t ≤ 9223372036854775807→tln t
 | ⟨op,N,ty,ks⟩,n,h,hb=>by
  rw [Kv2,Bool.and_eq_true] at h
  rw [tms] at hb
  rw [tln]
  refine ⟨by omega,by omega,V4z g y hg ks op n 0 h.2 (by omega),?_⟩
  have h1:=h.1
  unfold Kr9 Kr7 at h1
  simp only [Bool.and_eq_true] at h1
  have h2:=h1.1.2
  split at h2
  ·simp only [inB,Bool.and_eq_true,decide_eq_true_eq] at h2; omega
  ·split at h2
   ·simp only [inB,Bool.and_eq_true,decide_eq_true_eq] at h2; omega
   ·split at h2
    ·exact hg N h2
    ·have:=eq_of_beq h2; omega
theorem V4z (g:Int→Bool) (y:List Int→Bool) (hg:∀ x,g x=true→-9223372036854775808 ≤ x∧x ≤ 9223372036854775807):∀ (ks:List K00) (op:Int) (n i:Nat),Kra g y op n i ks=true→n + 2 * (ks.length + Kqk ks) ≤ 9223372036854775807→Krm ks
 | [],op,n,i,_,_=>by rw [Krm]; trivial
 | ⟨o,N,ty,ks1⟩ :: ks,op,n,i,h,hb=>by
  rw [Kv3,Bool.and_eq_true] at h
  rw [Kqk,List.length_cons] at hb
  have:=Kr4 op i
  rw [Krm]
  exact ⟨V4y g y hg _ _ h.1 (by omega),V4z g y hg ks op n (i + 1) h.2 (by omega)⟩
end
theorem V50 {s:K02} {n:Nat} (hs:Kwv s n) {m b:Nat} {t:K00} (h:V3s s m b t) (hb:b ≤ 100000) (hm:m ≤ 1000):tln t:=by
 have h3:=h.tms
 have h4:=hs.tab.size
 have h5:=hs.tab.hi
 refine V4y _ _ ?_ t m h.1 (by omega)
 intro x hx
 unfold gN at hx
 simp at hx
 omega
theorem V51 {op N:Int} {ty:List Int} {ks:List K00} (h1:ty.length ≤ 9223372036854775807) (h2:ks.length ≤ 9223372036854775807) (h3:Krm ks) (h4:-9223372036854775808 ≤ N∧N ≤ 9223372036854775807):tln ⟨op,N,ty,ks⟩:=by
 rw [tln]; exact ⟨h1,h2,h3,h4⟩
theorem V52 {t:K00} (h:tln t):t.fType.length ≤ 9223372036854775807∧t.fKids.length ≤ 9223372036854775807∧Krm t.fKids∧(-9223372036854775808 ≤ t.fN∧t.fN ≤ 9223372036854775807):=by
 cases t; rwa [tln] at h
theorem V53 {a b:List K00} (ha:Krm a) (hb:Krm b):Krm (a ++ b):=by
 induction a with
 | nil=>exact hb
 | cons x a ih =>
  rw [Krm] at ha
  rw [List.cons_append,Krm]
  exact ⟨ha.1,ih ha.2⟩
theorem V54 {l:List K00} (h:Krm l) (i:Nat) {u:K00} (hu:tln u):Krm (l.set i u):=by
 induction l generalizing i with
 | nil=>exact h
 | cons x l ih =>
  rw [Krm] at h
  cases i with
  | zero=>rw [List.set_cons_zero,Krm]; exact ⟨hu,h.2⟩
  | succ i=>rw [List.set_cons_succ,Krm]; exact ⟨h.1,ih h.2 i⟩
theorem V55 {l:List K00} (h:Krm l) {i:Nat} (hi:i < l.length):tln l[i]:=by
 induction l generalizing i with
 | nil=>simp at hi
 | cons x l ih =>
  rw [Krm] at h
  cases i with
  | zero=>exact h.1
  | succ i=>exact ih h.2 (by simpa using hi)
theorem V56 (t:K00) (o:Int) (hty:t.fType.length ≤ 1099511627776):∀ (l:List Int) (i:Nat) (c:K01) (out:List Int),t.fType.drop i=l→out.length=i→i ≤ t.fType.length→V10 c →
  Gv (Kgl (t,o,c.fb,c.fi,c.fh,out,(i:Int))) (fun r=>V10 ⟨r.1,r.2.1,r.2.2.1⟩∧r.2.2.2.length=t.fType.length):=by
 intro l
 induction l with
 | nil =>
  intro i c out hd ho hi h
  rw [Kgl.eq_def]
  simp only
  have:=Kpo hd
  rw [Koq this,if_neg (by decide)]
  exact .of ⟨h,by simp only; omega⟩
 | cons x l ih =>
  intro i c out hd ho hi h
  obtain ⟨h1,h2,h3⟩:=Kpn hd
  rw [Kgl.eq_def]
  simp only
  rw [Kop h1,if_pos rfl,h2,bs,Kpu,bs]
  refine Gv.bind (Q:=fun r:List Int × Int × Int × Bool=>V10 ⟨r.1,r.2.1,r.2.2.1⟩) (.ite (fun _=>.ite (fun _=>?_) (fun _=>.of h)) (fun _=>.of h)) ?_
  ·refine Gv.bind (V17 h 3) ?_
   rintro ⟨y,c1⟩ ⟨_,h4⟩
   exact .of h4
  ·rintro ⟨b,fi,fh,v⟩ h4
   simp only at h4 ⊢
   refine Gv.bind (Q:=fun _:Int=>True) (.ite (fun _=>?_) (fun _=>.of trivial)) (fun k _=>?_)
   ·rw [Kps,bs,Ku8,bs]
    exact .of trivial
   ·rw [Krs (by simp; omega),bs,Koo (by omega)]
    exact ih (i + 1) ⟨b,fi,fh⟩ _ h3 (by simp [ho]) (by omega) h4
theorem V57 (t:K00) (o:Int) (hty:t.fType.length ≤ 1099511627776) {c:K01} (h:V10 c):Gv (Kgl (t,o,c.fb,c.fi,c.fh,[],0)) (fun r=>V10 ⟨r.1,r.2.1,r.2.2.1⟩∧r.2.2.2.length=t.fType.length) :=
 V56 t o hty t.fType 0 c [] rfl rfl (Nat.zero_le _) h
mutual
theorem V58:∀ (t:K00) (c:K01),V10 c→tln t→tms t ≤ 1048576→Gv (Kgo (c,t)) (fun r=>(tln r.1∧tms r.1=tms t)∧V10 r.2)
 | ⟨op,N,ty,ks⟩,c,h,hl,hb=>by
  rw [tms] at hb
  have hl2:=V52 hl
  simp only at hl2
  rw [Kgo.eq_def]
  simp only
  rw [Kqz,bs]
  refine Gv.bind (Q:=fun r:List Int × Int × Int × Bool=>V10 ⟨r.1,r.2.1,r.2.2.1⟩) (.ite (fun _=>.ite (fun _=>?_) (fun _=>.of h)) (fun _=>.of h)) ?_
  ·refine Gv.bind (V17 h 3) ?_
   rintro ⟨y,c1⟩ ⟨_,h4⟩
   exact .of h4
  rintro ⟨b,fi,fh,v⟩ h4
  simp only at h4 ⊢
  refine Gv.bind (Q:=fun o:Int=>-9223372036854775808 ≤ o∧o ≤ 9223372036854775807) (.ite (fun _=>.of (by decide)) (fun _=>.of hl2.2.2.2)) (fun o ho=>?_)
  refine Gv.bind (V57 ⟨op,N,ty,ks⟩ o (by simp only; omega) h4) ?_
  rintro ⟨b2,i2,h2,out⟩ ⟨h5,h6⟩
  simp only at h5 h6 ⊢
  refine Gv.bind (V59 ks ⟨op,N,ty,ks⟩ o out 0 ⟨b2,i2,h2⟩ [] rfl rfl h5 hl2.2.2.1 (by simp only; omega) (by omega) (by rw [Krm]; trivial)) ?_
  rintro ⟨kk,b3,i3,h3⟩ ⟨⟨q1,q2,q3⟩,h7⟩
  simp only [List.length_nil,Nat.zero_add,Kqk] at q1 q2 q3 h7 ⊢
  exact .of ⟨⟨V51 (by omega) (by omega) q1 ho,by rw [tms,tms]; omega⟩,h7⟩
theorem V59:∀ (ks:List K00) (t:K00) (o:Int) (ty:List Int) (i:Nat) (c:K01) (out:List K00),t.fKids.drop i=ks→out.length=i→V10 c→Krm ks→t.fKids.length ≤ 1048576→Kqk ks ≤ 1048576→Krm out →
  Gv (Kgp (t,o,ty,c.fb,c.fi,c.fh,out,(i:Int))) (fun r=>(Krm r.1∧r.1.length=out.length + ks.length∧Kqk r.1=Kqk out + Kqk ks)∧V10 ⟨r.2.1,r.2.2.1,r.2.2.2⟩)
 | [],t,o,ty,i,c,out,hd,ho,h,hl,hk,hm,hto=>by
  rw [Kgp.eq_def]
  simp only
  rw [Koq (Kpo hd),if_neg (by decide)]
  exact .of ⟨⟨hto,by simp,by simp [Kqk]⟩,h⟩
 | k :: ks,t,o,ty,i,c,out,hd,ho,h,hl,hk,hm,hto=>by
  obtain ⟨h1,h2,h3⟩:=Kpn hd
  rw [Krm] at hl
  rw [Kqk] at hm
  rw [Kgp.eq_def]
  simp only
  rw [Kop h1,if_pos rfl,h2,bs]
  refine Gv.bind (V58 k ⟨c.fb,c.fi,c.fh⟩ h hl.1 (by omega)) ?_
  rintro ⟨x,c1⟩ ⟨⟨q1,q2⟩,h4⟩
  simp only at q1 q2 h4 ⊢
  rw [Krs (by simp; omega),bs,Koo (by omega)]
  refine (V59 ks t o ty (i + 1) c1 (out ++ [x]) h3 (by simp [ho]) h4 hl.2 hk (by omega) (V53 hto (by rw [Krm,Krm]; exact ⟨q1,trivial⟩))).mono ?_
  rintro ⟨a,b⟩ ⟨⟨z1,z2,z3⟩,z4⟩
  refine ⟨⟨z1,?_,?_⟩,z4⟩
  ·simp at z2 ⊢; omega
  ·rw [Kt4] at z3; simp only [Kqk] at z3 ⊢; omega
end
theorem V5a:∀ (n:Nat) (c:K01) (xs:List K00) (i:Nat) (hi:i < xs.length),V10 c→tsz xs[i] ≤ n→Krm xs→xs.length + Kqk xs ≤ 2097152 →
  Gv (Kh0 (c,xs,(i:Int))) (fun r=>(Krm r.1∧r.1.length=xs.length∧Kqk r.1 ≤ Kqk xs + 1)∧V10 r.2):=by
 intro n
 induction n with
 | zero=>intro c xs i hi h hn; have:=Kqm xs[i]; omega
 | succ n ih =>
  intro c xs i hi h hn hl hb
  have he:=V52 (V55 hl hi)
  have hm1:=Kt5 (List.getElem_mem hi)
  have hm2:=Kql xs[i]
  have hset:=fun u=>Kuc hi u
  have fin:∀ (u:K00) (c':K01),tln u→tms u ≤ tms xs[i] + 1→V10 c'→Gv (some (xs.set i u,c')) (fun r=>(Krm r.1∧r.1.length=xs.length∧Kqk r.1 ≤ Kqk xs + 1)∧V10 r.2):=fun u c' q1 q2 q3=>by
   have:=hset u
   exact .of ⟨⟨V54 hl i q1,by simp,by simp only; omega⟩,q3⟩
  rw [Kh0.eq_def]
  simp only
  rw [Kon hi,bs,Int.toNat_natCast]
  generalize hx:xs[i]=e at *
  refine Gv.bind (Q:=fun r:List Int × Int × Int × Bool=>V10 ⟨r.1,r.2.1,r.2.2.1⟩∧(r.2.2.2=true→0 < e.fKids.length)) (.ite (fun hk=>?_) (fun _=>.of ⟨h,fun q=>by cases q⟩)) ?_
  ·have hk:=of_decide_eq_true hk
   refine Gv.bind (V17 h 3) ?_
   rintro ⟨y,c1⟩ ⟨_,h4⟩
   exact .of ⟨h4,fun _=>by omega⟩
  rintro ⟨b,fi,fh,v⟩ ⟨h4,hv⟩
  simp only at h4 hv ⊢
  refine .ite (fun hv1=>?_) (fun _=>?_)
  ·have hk:=hv hv1
   refine Gv.bind (V17 h4 _) ?_
   rintro ⟨j,c2⟩ ⟨⟨hj,_⟩,h5⟩
   simp only at hj h5 ⊢
   obtain ⟨hj0,hj1⟩:=hj (by omega)
   obtain ⟨m,rfl⟩:=Int.eq_ofNat_of_zero_le hj0
   have hm:m < e.fKids.length:=by omega
   rw [Kon hm,bs]
   have hts:tsz e.fKids[m] ≤ n:=by
    have h1:=Kqm e
    have h2:tsz e.fKids[m] ≤ Kqj e.fKids:=Kt6 (List.getElem_mem hm)
    omega
   refine Gv.bind (ih c2 e.fKids m hm h5 hts he.2.2.1 (by omega)) ?_
   rintro ⟨ks,c3⟩ ⟨⟨q1,q2,q3⟩,h6⟩
   simp only at q1 q2 q3 h6 ⊢
   exact fin _ _ (V51 he.1 (by omega) q1 he.2.2.2) (by rw [tms]; omega) h6
  ·refine Gv.bind (V17 h4 6) ?_
   rintro ⟨j,c2⟩ ⟨_,h5⟩
   simp only at h5 ⊢
   refine .ite (fun _=>?_) (fun _=>?_)
   ·refine Gv.bind (V17 h5 15) ?_
    rintro ⟨y,c3⟩ ⟨_,h6⟩
    exact fin _ _ (V51 he.1 he.2.1 he.2.2.1 he.2.2.2) (by rw [tms]; omega) h6
   refine Gv.bind (Q:=fun _:Bool=>True) (.ite (fun _=>.of trivial) (fun _=>.of trivial)) (fun w _=>?_)
   refine .ite (fun _=>?_) (fun _=>.ite (fun _=>?_) (fun _=>.ite (fun _=>?_) (fun _=>.ite (fun hk=>?_) (fun _=>?_))))
   ·refine Gv.bind (V19 h5 _ (by decide)) ?_
    rintro ⟨y,c3⟩ ⟨hy,h6⟩
    refine fin _ _ (V51 he.1 he.2.1 he.2.2.1 ?_) (by rw [tms]; omega) h6
    simp only [List.mem_cons,List.not_mem_nil,or_false] at hy
    omega
   ·refine Gv.bind (V19 h5 _ (by decide)) ?_
    rintro ⟨y,c3⟩ ⟨hy,h6⟩
    exact fin _ _ (V51 (by simp) he.2.1 he.2.2.1 he.2.2.2) (by rw [tms]; simp; omega) h6
   ·rw [Krs (by simp; omega),bs,Kon (by simp),bs,Int.toNat_natCast]
    have e2:(e.fKids ++ [(⟨0,0,[],[]⟩:K00)]).set e.fKids.length (⟨1,0,[],[]⟩:K00)=e.fKids ++ [⟨1,0,[],[]⟩]:=by simp
    rw [e2]
    have e3:tln ⟨1,0,[],[]⟩:=V51 (by simp) (by simp) (by rw [Krm]; trivial) (by decide)
    exact fin _ _ (V51 he.1 (by simp; omega) (V53 he.2.2.1 (by rw [Krm,Krm]; exact ⟨e3,trivial⟩)) he.2.2.2) (by rw [tms,Kt4]; simp [Kqk,tms]; omega) h5
   ·have hk:=of_decide_eq_true hk
    have k0:0 < e.fKids.length:=by omega
    have k1:1 < e.fKids.length:=by omega
    rw [show (0:Int)=((0:Nat):Int) from rfl,show (1:Int)=((1:Nat):Int) from rfl,Kon k0,bs,Kon k1,bs,bs,Int.toNat_natCast,Kon (by simp; omega),bs,Int.toNat_natCast]
    have a0:=V55 he.2.2.1 k0
    have a1:=V55 he.2.2.1 k1
    have s1:=Kuc k0 e.fKids[1]
    have s2:=Kuc (l:=e.fKids.set 0 e.fKids[1]) (i:=1) (by simp; omega) e.fKids[0]
    rw [List.getElem_set_ne (by decide)] at s2
    exact fin _ _ (V51 he.1 (by simp; omega) (V54 (V54 he.2.2.1 0 a1) 1 a0) he.2.2.2) (by rw [tms]; simp only [List.length_set]; omega) h5
   ·exact .of ⟨⟨hl,rfl,by simp⟩,h5⟩
theorem V5b {c:K01} {t:K00} (h:V10 c) (hl:tln t) (hb:tms t ≤ 1048576):Gv (Kh3 (c,t)) (fun r=>(tln r.1∧tms r.1 ≤ tms t + 1)∧V10 r.2):=by
 unfold Kh3
 simp only
 refine Gv.bind (V18 h 6) ?_
 rintro ⟨x,c1⟩ h1
 simp only at h1 ⊢
 refine .ite (fun _=>?_) (fun _=>.of ⟨⟨hl,by simp⟩,h1⟩)
 rw [Kto (Ktr t hl) (by omega),bs]
 refine Gv.bind (V5a (tsz t) c1 [t] 0 (by simp) h1 (Nat.le_refl _) (by rw [Krm,Krm]; exact ⟨hl,trivial⟩) (by simp [Kqk]; omega)) ?_
 rintro ⟨zs,c2⟩ ⟨⟨q1,q2,q3⟩,h2⟩
 simp only [List.length_singleton] at q1 q2 q3 h2 ⊢
 rw [show (0:Int)=((0:Nat):Int) from rfl,Kon (by omega),bs]
 refine .of ⟨⟨V55 q1 (by omega),?_⟩,h2⟩
 have:=Kt5 (List.getElem_mem (l:=zs) (n:=0) (by omega))
 simp only [Kqk] at q3
 simp only
 omega
theorem V3s.tln {s:K02} (h:s ∈ V3c) {m b:Nat} {t:K00} (ht:V3s s m b t) (hb:b ≤ 100000) (hm:m ≤ 1000):tln t:=V50 (Kww (V3d h).1) ht hb hm
theorem V5c {c:K01} (h:V10 c) {deep:Nat} (hd:deep ≤ 4):Gv (Kh6 (c,(deep:Int))) (fun r=>(tln r.1∧tms r.1 ≤ 40000)∧V10 r.2):=by
 unfold Kh6
 simp only
 refine Gv.bind (V18 h 2) ?_
 rintro ⟨v,c1⟩ h1
 simp only at h1 ⊢
 refine Gv.bind (V4w h1 hd 3 (by decide) v) ?_
 rintro ⟨s,ctx,t,c2⟩ ⟨hsy,hc,ht,h2⟩
 simp only at hsy hc ht h2 ⊢
 have hcl:=hc.2.1
 have htl:=ht.tln hsy (by decide) (by omega)
 have htm:=ht.tms
 obtain ⟨o1,o2,o3,o4⟩:=t
 refine Gv.bind (V18 h2 4) ?_
 rintro ⟨v2,c3⟩ h3
 simp only at h3 ⊢
 refine Gv.bind (Q:=fun r:List Int × Int × Int × Int × Int × List Int × List K00=>V10 ⟨r.1,r.2.1,r.2.2.1⟩∧tln ⟨r.2.2.2.1,r.2.2.2.2.1,r.2.2.2.2.2.1,r.2.2.2.2.2.2⟩∧tms ⟨r.2.2.2.1,r.2.2.2.2.1,r.2.2.2.2.2.1,r.2.2.2.2.2.2⟩ ≤ 33000) (.ite (fun _=>?_) (fun _=>.of ⟨h3,htl,by simp only; omega⟩)) ?_
 ·refine Gv.bind (V58 _ c3 h3 htl (by omega)) ?_
  rintro ⟨⟨p1,p2,p3,p4⟩,c4⟩ ⟨⟨q1,q2⟩,h4⟩
  exact .of ⟨h4,q1,by simp only at q2 ⊢; omega⟩
 rintro ⟨a1,a2,a3,a4,a5,a6,a7⟩ ⟨h4,q1,q2⟩
 simp only at h4 q1 q2 ⊢
 refine Gv.bind (V5b h4 q1 (by omega)) ?_
 rintro ⟨u,c5⟩ ⟨⟨q3,q4⟩,h5⟩
 exact .of ⟨⟨q3,by simp only at q4 ⊢; omega⟩,h5⟩
theorem V5d {c:K01} (h:V10 c) {deep:Nat} (hd:2 ≤ deep∧deep ≤ 4):Gv (Kh6 (c,(deep:Int))) (fun r=>(tln r.1∧tms r.1 ≤ 40000)∧V10 r.2):=V5c h hd.2
mutual
theorem V5e:∀ (a b:K00),tms a ≤ 1099511627776→tms b ≤ 1099511627776→Kmj (a,b)=some (tEq a b)
 | ⟨o,N,t,k⟩,⟨o',N',t',k'⟩,ha,hb=>by
  rw [tms] at ha hb
  rw [Kmj.eq_def,tEq]
  simp only
  rw [Kv0 t t' (by omega)]
  have hk:Kmk (k,k')=some (k.length == k'.length && Kwn k k'):=by
   rw [Kmk.eq_def]
   simp only
   by_cases h4:k.length=k'.length
   ·have hl:=V5f k k' k k' 0 rfl rfl h4 (by omega) (by omega) (by omega)
    rw [show ((0:Nat):Int)=0 from rfl] at hl
    rw [show ((k.length:Int) != (k'.length:Int))=false by rw [h4]; exact Kor,if_neg (by decide),hl,bs,beq_iff_eq.2 h4]
    cases Kwn k k' <;> rfl
   ·rw [bne_iff_ne.2 (by omega),if_pos rfl,beq_eq_false_iff_ne.2 h4]; rfl
  rw [hk]
  cases o == o' <;> cases N == N' <;> cases t == t' <;> rfl
theorem V5f:∀ (ks js a b:List K00) (i:Nat),a.drop i=ks→b.drop i=js→ks.length=js.length→a.length ≤ 1099511627776→Kqk ks ≤ 1099511627776→Kqk js ≤ 1099511627776→Kml (a,b,(i:Int))=some (if Kwn ks js then .inl () else .inr false)
 | [],js,a,b,i,h1,h2,hl,hk,m1,m2=>by
  rw [Kml.eq_def,Kwn]
  simp only
  rw [Koq (Kpo h1)]; rfl
 | x :: ks,[],a,b,i,h1,h2,hl,hk,m1,m2=>by simp at hl
 | x :: ks,y :: js,a,b,i,h1,h2,hl,hk,m1,m2=>by
  obtain ⟨hi,hx,hd⟩:=Kpn h1
  obtain ⟨_,hy,hd2⟩:=Kpn h2
  rw [Kqk] at m1 m2
  rw [Kml.eq_def,Kwn]
  simp only
  rw [Kop hi,if_pos rfl,hx,bs,hy,bs,V5e x y (by omega) (by omega),bs,Koo (by omega),V5f ks js a b (i + 1) hd hd2 (by simpa using hl) hk (by omega) (by omega)]
  cases tEq x y <;> rfl
end
def p1 (op N:Int):Int:=if op == 12 then 1 else if Kqu op then -1 else N
def p2 (op N:Int):Int:=if Kqu op then 1 else N
theorem hp1 (op N:Int):(Kqu op=true→gN 16 false (p1 op N)=true)∧(Kqu op=false→p1 op N=N):=by
 unfold p1
 refine ⟨fun h=>?_,fun h=>?_⟩
 ·rw [h]
  split
  ·decide
  ·rw [if_pos rfl]; decide
 ·rw [h]
  by_cases e:op=12
  ·subst e; cases h
  ·rw [if_neg (by simp [e])]; rfl
end Go.Am
