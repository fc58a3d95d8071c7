/- Plain laws of the printed functions. -/
import Derived.Test.YtckgdfakjjdodaaGreatPSEC1
set_option linter.unusedSimpArgs false
set_option linter.unusedVariables false
namespace Go.Am
theorem Ky0 (g:Nat) (h:g ≤ 15):Ko1 (3 + (g:Int))=(3,(g:Int)):=by
 rcases Ko3 (3 + (g:Int)) with h | h | h | h | h | h | h | h <;> first | omega | (obtain ⟨_,e⟩:=h; rw [e]; congr 1; omega)
theorem Ky1 (g:Nat) (h:g ≤ 15):Ko1 (19 + (g:Int))=(4,(g:Int)):=by
 rcases Ko3 (19 + (g:Int)) with h | h | h | h | h | h | h | h <;> first | omega | (obtain ⟨_,e⟩:=h; rw [e]; congr 1; omega)
theorem Ky2 (g:Nat) (h:g ≤ 15):Knu (3 + (g:Int))=true:=by unfold Knu inB; simp; omega
theorem Ky3 (g:Nat) (h:g ≤ 15):Knu (19 + (g:Int))=false:=by unfold Knu inB; simp; omega
theorem Ky4 (g:Nat) (h:g ≤ 15):Knv (3 + (g:Int))=false:=by unfold Knv inB; simp; omega
theorem Ky5 (g:Nat) (h:g ≤ 15):Knv (19 + (g:Int))=true:=by unfold Knv inB; simp; omega
theorem Ky6 (g:Nat) (h:g ≤ 15):Khc (3 + (g:Int))=some (g:Int):=by
 rw [Koj (by rcases Ko0 (3 + (g:Int)) with h | h | h | h <;> omega)]
 unfold Koh
 rw [if_neg (by omega),if_neg (by omega)]
 congr 1; omega
theorem Ky7 (g:Nat) (h:g ≤ 15):Khc (19 + (g:Int))=some (g:Int):=by
 rw [Koj (by rcases Ko0 (19 + (g:Int)) with h | h | h | h <;> omega)]
 unfold Koh
 rw [if_neg (by omega),if_pos (by omega)]
 congr 1; omega
section
variable {s:K00} {n:Nat} (hs:Kua s n) {ctx:List (List Int)} {N:Int} {ty:List Int} {ks:List K02}
include hs
structure Ky8 (s:K00) (n:Nat) (q:List Int) (c:Int):Prop where
 arr:(Ko1 c).1=3→∃ (g:Nat) (a b:List Int),g < n∧g ≤ 15∧c=3 + (g:Int)∧q=c :: (a ++ b)∧Kvm s (3 + (g:Int)) a b
 pair:(Ko1 c).1=1→∃ (a b:List Int),c=1∧q=c :: (a ++ b)∧Kvm s 1 a b
 sum:(Ko1 c).1=2→∃ (a b:List Int),c=2∧q=c :: (a ++ b)∧Kvm s 2 a b
 box:(Ko1 c).1=4→∃ (g:Nat) (a:List Int),g < n∧g ≤ 15∧c=19 + (g:Int)∧q=c :: a∧Kvn s (19 + (g:Int)) a
 arrB:Knu c=true ↔ (Ko1 c).1=3
 boxB:Knv c=true ↔ (Ko1 c).1=4
 one:c=1 ↔ (Ko1 c).1=1
 two:c=2 ↔ (Ko1 c).1=2
theorem Ky9 {q:List Int} (hq:TyS s q) {c:Int} {r:List Int} (e:q=c :: r):Ky8 s n q c:=by
 rcases Kvs hs hq with rfl | ⟨a,b,rfl,P⟩ | ⟨a,b,rfl,P⟩ | ⟨g,a,b,hg,h15,rfl,P⟩ | ⟨g,a,hg,h15,rfl,P⟩
 ·cases e
  refine ⟨fun h=>?_,fun h=>?_,fun h=>?_,fun h=>?_,by decide,by decide,by decide,by decide⟩ <;> exact absurd h (by decide)
 ·cases e
  refine ⟨fun h=>absurd h (by decide),fun _=>⟨a,b,rfl,rfl,P⟩,fun h=>absurd h (by decide),fun h=>absurd h (by decide),by decide,by decide,by decide,by decide⟩
 ·cases e
  refine ⟨fun h=>absurd h (by decide),fun h=>absurd h (by decide),fun _=>⟨a,b,rfl,rfl,P⟩,fun h=>absurd h (by decide),by decide,by decide,by decide,by decide⟩
 ·cases e
  have hsh:=Ky0 g h15
  refine ⟨fun _=>⟨g,a,b,hg,h15,rfl,rfl,P⟩,fun h=>?_,fun h=>?_,fun h=>?_,?_,?_,?_,?_⟩
  ·rw [hsh] at h; simp at h
  ·rw [hsh] at h; simp at h
  ·rw [hsh] at h; simp at h
  ·rw [hsh,Ky2 g h15]; simp
  ·rw [hsh,Ky4 g h15]; simp
  ·rw [hsh]; simp; omega
  ·rw [hsh]; simp; omega
 ·cases e
  have hsh:=Ky1 g h15
  refine ⟨fun h=>?_,fun h=>?_,fun h=>?_,fun _=>⟨g,_,hg,h15,rfl,rfl,P⟩,?_,?_,?_,?_⟩
  ·rw [hsh] at h; simp at h
  ·rw [hsh] at h; simp at h
  ·rw [hsh] at h; simp at h
  ·rw [hsh,Ky3 g h15]; simp
  ·rw [hsh,Ky5 g h15]; simp
  ·rw [hsh]; simp; omega
  ·rw [hsh]; simp; omega
theorem Kya (ih:Kxn s n (tsz (⟨10,N,ty,ks⟩:K02))) (h:tOk (gN s.fSize true) (yN s.fSize true) ctx.length ⟨10,N,ty,ks⟩=true) (hc:∀ q ∈ ctx,TyS s q) (hb:ctx.length + 2 * tsz (⟨10,N,ty,ks⟩:K02) ≤ 1000000):∃ x y,Kx6 s n ctx ⟨10,N,ty,ks⟩ x y:=by
 obtain ⟨k0,k1,rfl,p0,p1⟩:=nd2 h (Nat.le_refl _) rfl
 have hz:=Ktk 10 N ty k0 k1
 obtain ⟨x0,y0,r0⟩:=ih k0 ctx p0 hc (by omega)
 obtain ⟨x1,y1,r1⟩:=ih k1 ctx p1 hc (by omega)
 by_cases f0:x0.ffault=0
 rotate_left
 ·exact Kxp (by decide) (by decide) (by decide) hb r0 f0
 obtain ⟨g0,q0,a,na,la,ba⟩:=r0.gd f0
 obtain ⟨c0,t0,ht0,hn0,hz0⟩:=Kxs hs g0
 have L0:=Kvj g0
 have e0:Kls (s,ctx,⟨10,N,ty,[k0,k1]⟩,0)=some x0:=Kx7 (i:=0) rfl r0 f0
 have C:=Ky9 hs g0 ht0
 have i0:idx x0.fty 0=some c0:=by rw [ht0]; rfl
 by_cases z0:(Ko1 c0).1=3
 rotate_left
 ·have w0:Knu c0=false:=by cases h:Knu c0 with | true=>exact absurd (C.arrB.1 h) z0 | false=>rfl
  refine Kx6.bad (f:=6) (p:=[]) ?_ (Kwc (by omega) (Kxa (m:=[]) rfl (Kxj (by decide)) r0 (by simp; omega) f0 (by rw [ht0,Kwj,if_neg z0]) (by decide))) (by decide) (by simp; omega)
  rw [Klq.eq_def]
  simp [e0,f0,i0,Knx,w0,Klk]
 obtain ⟨g,p,q,hg,h15,hcg,hq,P⟩:=C.arr z0
 have w0:Knu c0=true:=C.arrB.2 z0
 have o0:=Kxc (out:=[]) (nd:=[]) (us:=[]) (w:=0) (t:=⟨10,N,ty,[k0,k1]⟩) (m:=[]) rfl (Kxj (by decide)) r0 (by simp; omega) f0 (by rw [ht0,Kwj,if_pos z0]) (Kwf (by decide)) na (by simp <;> omega) (by simp) (by simp) (by simp) (by simp)
 have m1:Kw1 ⟨10,N,ty,[k0,k1]⟩ [y0] 1=some []:=Kxl (by decide) (Kxd (by decide) rfl)
 by_cases f1:x1.ffault=0
 rotate_left
 ·have e1:Kls (s,ctx,⟨10,N,ty,[k0,k1]⟩,1)=some ⟨[],[],x1.ffault,1 :: x1.fpath⟩:=Kx8 (i:=1) rfl r1 (by omega) f1
  refine Kx6.bad (f:=x1.ffault) (p:=1 :: x1.fpath) ?_ (Kwc (by omega) (o0.trans (Kx9 (m:=[]) rfl m1 r1 (by omega) (by simp; omega) f1))) f1 (by have:=r1.pl; simp; omega)
  rw [Klq.eq_def]
  simp [e0,f0,i0,Knx,w0,e1,f1]
 obtain ⟨g1,q1,b,nb,lb,bb⟩:=r1.gd f1
 obtain ⟨c1,t1,ht1,hn1,hz1⟩:=Kxs hs g1
 have L1:=Kvj g1
 have e1:Kls (s,ctx,⟨10,N,ty,[k0,k1]⟩,1)=some x1:=Kx7 (i:=1) rfl r1 f1
 have hp0:Ki0 (x0.fty,0)=some p:=by rw [hq,hcg]; exact P.p0
 have hp1:Ki0 (x0.fty,1)=some q:=by rw [hq,hcg]; exact P.p1
 have hpp:Kfv y0.fty=some [p,q]:=by rw [r0.ty,hq,hcg]; exact P.pp
 have Lp:=Kvj P.ya
 have Lq:=Kvj P.yb
 have hsm:=Ksu x1.fty p (by omega)
 have hsi:=Ksw x1.fty p (by omega)
 have ha:Kw7 ⟨10,N,ty,[k0,k1]⟩ [y0] 1 y1=some (!(x1.fty == p)):=by
  unfold Kw7
  rw [if_pos (show ((10:Int) == 10)=true by decide),if_pos (by decide),Kwo,bs,hpp,bs,Kwo,bs,r1.ty,hsi,bs]
 by_cases hqq:x1.fty=p
 rotate_left
 ·rw [show (x1.fty == p)=false from beq_eq_false_iff_ne.2 hqq] at hsm ha
  refine Kx6.bad (f:=3) (p:=[]) ?_ (Kwc (by omega) (o0.trans (Kxb (m:=[]) rfl m1 r1 (by simp; omega) f1 (by rw [ht1]; exact Kwg (.inr (by decide))) ha))) (by decide) (by simp; omega)
  rw [Klq.eq_def]
  simp [e0,f0,i0,Knx,w0,e1,f1,hp0,hsm,Klk]
 rw [show (x1.fty == p)=true from beq_iff_eq.2 hqq] at hsm ha
 have o1:=Kxc (out:=[y0]) (nd:=[Ku5 a]) (us:=[Ku5 []]) (w:=1) (t:=⟨10,N,ty,[k0,k1]⟩) (m:=[]) rfl m1 r1 (by simp; omega) f1 (by rw [ht1]; exact Kwg (.inr (by decide))) ha nb (by simp <;> omega) (by simp) (by simp) (by simp) (by simp)
 have hf:=Kx0 (N:=N) (ty:=ty) (ks:=[k0,k1]) (ctx:=ctx) (us:=[Ku5 [],Ku5 []]) (z:=Ku5 (List.replicate ctx.length 0)) (y0:=y0) (y1:=y1) hs hg (p:=p) (q:=q) (by rw [r0.ty,hq,hcg]) P ba bb (by omega) (by omega)
 have im:=Kxo (q:=q) (ns:=Kui s n a (Kuj s n g b)) (kids:=[y0,y1]) Lq (Kwd (p0:=⟨s⟩) (t:=⟨10,N,ty,[k0,k1]⟩) (ctx:=ctx) (by omega) (o0.trans (o1.trans (Kw4 (Nat.le_refl _)))) hf)
 have lsc:(Kuj s n g b).length=ctx.length:=by unfold Kuj; rw [List.length_map]; exact lb
 refine Kx6.good (q:=q) (ns:=Kui s n a (Kuj s n g b)) (kids:=[y0,y1]) ?_ im (by omega) P.yb (by unfold Kui; rw [List.length_zipWith]; omega) (Kuo hs ba (Kup hs hg bb)) rfl (kd2 (Kx5.mk' (Kxd (by decide) rfl) r0 f0 (fun _ h=>by cases h) rfl) (Kx5.mk' (Kxd (by decide) rfl) r1 f1 (fun _ h=>by cases h) rfl))
 have hgr:Khc c0=some (g:Int):=by rw [hcg]; exact Ky6 g h15
 rw [Klq.eq_def]
 simp [e0,f0,i0,Knx,w0,e1,f1,hp0,hp1,hsm,hgr,na,nb,Kuu hs g hg a b ba bb (by omega) (by omega)]
theorem Kyb (ih:Kxn s n (tsz (⟨5,N,ty,ks⟩:K02))) (h:tOk (gN s.fSize true) (yN s.fSize true) ctx.length ⟨5,N,ty,ks⟩=true) (hc:∀ q ∈ ctx,TyS s q) (hb:ctx.length + 2 * tsz (⟨5,N,ty,ks⟩:K02) ≤ 1000000):∃ x y,Kx6 s n ctx ⟨5,N,ty,ks⟩ x y:=by
 obtain ⟨k0,k1,rfl,p0,p1⟩:=nd2 h (Nat.le_refl _) rfl
 have hz:=Ktk 5 N ty k0 k1
 obtain ⟨g,hN,hg⟩:=Kvv hs (Kvx h rfl)
 simp only at hN
 subst hN
 obtain ⟨x0,y0,r0⟩:=ih k0 ctx p0 hc (by omega)
 by_cases f0:x0.ffault=0
 rotate_left
 ·exact Kxp (by decide) (by decide) (by decide) hb r0 f0
 obtain ⟨g0,q0,a,na,la,ba⟩:=r0.gd f0
 obtain ⟨c0,t0,ht0,hn0,hz0⟩:=Kxs hs g0
 have L0:=Kvj g0
 have e0:Kls (s,ctx,⟨5,(g:Int),ty,[k0,k1]⟩,0)=some x0:=Kx7 (i:=0) rfl r0 f0
 have C:=Ky9 hs g0 ht0
 have i0:idx x0.fty 0=some c0:=by rw [ht0]; rfl
 by_cases z0:(Ko1 c0).1=1
 rotate_left
 ·have w0:c0 ≠ 1:=fun h=>z0 (C.one.1 h)
  refine Kx6.bad (f:=4) (p:=[]) ?_ (Kwc (by omega) (Kxa (m:=[]) rfl (Kxj (by decide)) r0 (by simp; omega) f0 (by rw [ht0,Kwk hs hg,if_neg z0]) (by decide))) (by decide) (by simp; omega)
  rw [Klq.eq_def]
  simp [e0,f0,i0,Klr.eq_def,w0,Klk]
 obtain ⟨p,q,hcg,hq,P⟩:=C.pair z0
 have hle:=sLe hs.tab (Kuc hs) hg
 cases hl:le s n 1 g with
 | false =>
  have hl2:K8n (s,1,(g:Int))=some false:=by rw [← hl]; exact hle
  refine Kx6.bad (f:=8) (p:=[]) ?_ (Kwc (by omega) (Kxa (m:=[]) rfl (Kxj (by decide)) r0 (by simp; omega) f0 (by rw [ht0,Kwk hs hg,if_pos z0,hl]; rfl) (by decide))) (by decide) (by simp; omega)
  rw [Klq.eq_def]
  simp [e0,f0,i0,Klr.eq_def,hcg,hl2,Klk]
 | true =>
 have hl2:K8n (s,1,(g:Int))=some true:=by rw [← hl]; exact hle
 have o0:=Kxc (out:=[]) (nd:=[]) (us:=[]) (w:=0) (t:=⟨5,(g:Int),ty,[k0,k1]⟩) (m:=[]) rfl (Kxj (by decide)) r0 (by simp; omega) f0 (by rw [ht0,Kwk hs hg,if_pos z0,hl]; rfl) (Kwe (show (5:Int) ≠ 10 by decide)) na (by simp <;> omega) (by simp) (by simp) (by simp) (by simp)
 have hp0:Ki0 (x0.fty,0)=some p:=by rw [hq,hcg]; exact P.p0
 have hp1:Ki0 (x0.fty,1)=some q:=by rw [hq,hcg]; exact P.p1
 have ad:Klu (⟨5,(g:Int),ty,[k0,k1]⟩,((1:Nat):Int),y0.fty)=some [q,p]:=by rw [r0.ty,hq,hcg]; exact Kxf P
 have hm':∀ z ∈ [q,p],TyS s z:=fun z hz=>by simp at hz; rcases hz with rfl | rfl; exact P.yb; exact P.ya
 have m1:Kw1 ⟨5,(g:Int),ty,[k0,k1]⟩ [y0] 1=some [q,p]:=Kxl (by decide) ad
 have p1':Kvw s ([q,p] ++ ctx).length k1 (tsz (⟨5,(g:Int),ty,[k0,k1]⟩:K02)):=by
  have e:([q,p] ++ ctx).length=ctx.length + Kp6 5 1:=by simp [Kp6]
  rw [e]; exact p1
 obtain ⟨x1,y1,r1⟩:=ih k1 ([q,p] ++ ctx) p1' (fun z hz=>by rcases List.mem_append.1 hz with hz | hz; exact hm' z hz; exact hc z hz) (by simp; omega)
 have hwc:=Kv8 ctx [q,p] (by simp; omega)
 by_cases f1:x1.ffault=0
 rotate_left
 ·have e1:Kls (s,q :: p :: ctx,⟨5,(g:Int),ty,[k0,k1]⟩,1)=some ⟨[],[],x1.ffault,1 :: x1.fpath⟩:=Kx8 (i:=1) rfl r1 (by omega) f1
  refine Kx6.bad (f:=x1.ffault) (p:=1 :: x1.fpath) ?_ (Kwc (by omega) (o0.trans (Kx9 (m:=[q,p]) rfl m1 r1 (by omega) (by simp; omega) f1))) f1 (by have:=r1.pl; simp; omega)
  rw [Klq.eq_def]
  simp [e0,f0,i0,Klr.eq_def,hcg,hl2,hp0,hp1,hwc,e1,f1]
 obtain ⟨g1,q1,b,nb,lb,bb⟩:=r1.gd f1
 obtain ⟨c1,t1,ht1,hn1,hz1⟩:=Kxs hs g1
 have L1:=Kvj g1
 have e1:Kls (s,q :: p :: ctx,⟨5,(g:Int),ty,[k0,k1]⟩,1)=some x1:=Kx7 (i:=1) rfl r1 f1
 have lb':b.length=ctx.length + 2:=by rw [lb]; simp
 obtain ⟨u0,u1,b',rfl⟩:∃ u0 u1 b',b=u0 :: u1 :: b':=by match b,lb' with | u0 :: u1 :: b',_=>exact ⟨u0,u1,b',rfl⟩ | [_],h=>simp at h | [],h=>simp at h
 obtain ⟨hu0,bb1⟩:=Kum bb
 obtain ⟨hu1,bb'⟩:=Kum bb1
 have o1:=Kxc (out:=[y0]) (nd:=[Ku5 a]) (us:=[Ku5 []]) (w:=1) (t:=⟨5,(g:Int),ty,[k0,k1]⟩) (m:=[q,p]) rfl m1 r1 (by simp; omega) f1 (by rw [ht1]; exact Kwg (.inr (by decide))) (Kwe (show (5:Int) ≠ 10 by decide)) nb (by simp <;> omega) (by simp) (by simp) (by simp) (by simp)
 simp only [List.length_cons,List.length_nil,Nat.zero_add,List.drop_succ_cons,List.drop_zero,List.take_succ_cons,List.take_zero,List.nil_append] at o1
 have hl0:=o0.trans (o1.trans (Kw4 (Nat.le_refl _)))
 have lbc:b'.length=ctx.length:=by simp at lb'; omega
 have i1:idx x1.fneeds 0=some (u0:Int):=by rw [nb]; rfl
 have hcut:cut x1.fneeds (some (2:Int)) none none=some (Ku5 b'):=by
  rw [nb]
  have:=Kw6 (l:=Ku5 (u0 :: u1 :: b')) (m:=2) (by simp [Ku5])
  exact this
 have hcp:=Kpu (Ku5 b') (by rw [Ku6]; omega)
 have i2:idx x1.fneeds 1=some (u1:Int):=by rw [nb]; rfl
 have hle0:=sLe hs.tab hu0 hg
 have hle1:=sLe hs.tab hu1 hg
 have hf:=Kx1 (ty:=ty) (ks:=[k0,k1]) (ctx:=ctx) (z:=Ku5 (List.replicate ctx.length 0)) (y0:=y0) (y1:=y1) (us':=Ku5 []) (u:=[u0,u1]) hs hg (fun x hx=>by simp at hx; rcases hx with rfl | rfl; exact hu0; exact hu1) (by simp) ba bb' (by omega) (by omega) (by rw [r1.ty]; omega)
 simp only [List.all_cons,List.all_nil,Bool.and_true] at hf
 have es:=e1
 cases hal:(le s n u0 g && le s n u1 g) with
 | false =>
  rw [hal,if_neg (by decide)] at hf
  refine Kx6.bad (f:=9) (p:=[]) ?_ (Kwd (by omega) hl0 hf) (by decide) (by simp; omega)
  rw [Klq.eq_def]
  simp [e0,f0,i0,Klr.eq_def,hcg,hl2,hp0,hp1,hwc,e1,f1,i1,i2,hcut,hcp,hle0,hle1,Klk]
  cases q1:le s n u1 g with
  | false=>simp
  | true=>rw [q1,Bool.and_true] at hal; simp [hal]
 | true =>
  rw [hal,if_pos rfl] at hf
  have im:=Kxo (q:=y1.fty) (ns:=Kui s n (Kuj s n g a) b') (kids:=[y0,y1]) (by rw [r1.ty]; omega) (Kwd (by omega) hl0 hf)
  rw [r1.ty] at im
  have lsc:(Kuj s n g a).length=ctx.length:=by unfold Kuj; rw [List.length_map]; exact la
  have hsc:=Kup hs hg ba
  have hz0:=Kus hs hsc
  rw [lsc] at hz0
  have hsum:=Kuu hs g hg (List.replicate ctx.length 0) a (fun x hx=>by rw [List.eq_of_mem_replicate hx]; exact Kud hs) ba (by simp; omega) (by simp [la])
  rw [hz0] at hsum
  have hs2:=Kuv hs (Kuj s n g a) b' hsc bb' (by omega) (by omega)
  refine Kx6.good (q:=x1.fty) (ns:=Kui s n (Kuj s n g a) b') (kids:=[y0,y1]) ?_ im (by omega) g1 (by unfold Kui; rw [List.length_zipWith]; omega) (Kuo hs hsc bb') rfl (kd2 (Kx5.mk' (Kxd (by decide) rfl) r0 f0 (fun _ h=>by cases h) rfl) (Kx5.mk' ad r1 f1 hm' rfl))
  rw [Klq.eq_def]
  rw [Bool.and_eq_true] at hal
  simp [e0,f0,i0,Klr.eq_def,hcg,hl2,hp0,hp1,hwc,e1,f1,i1,i2,hcut,hcp,hle0,hle1,hal.1,hal.2,na,Kv7 ctx.length (by omega),hsum,hs2]
theorem Kyc (ih:Kxn s n (tsz (⟨12,N,ty,ks⟩:K02))) (h:tOk (gN s.fSize true) (yN s.fSize true) ctx.length ⟨12,N,ty,ks⟩=true) (hc:∀ q ∈ ctx,TyS s q) (hb:ctx.length + 2 * tsz (⟨12,N,ty,ks⟩:K02) ≤ 1000000):∃ x y,Kx6 s n ctx ⟨12,N,ty,ks⟩ x y:=by
 obtain ⟨k0,k1,rfl,p0,p1⟩:=nd2 h (Nat.le_refl _) rfl
 have hz:=Ktk 12 N ty k0 k1
 obtain ⟨g,hN,hg⟩:=Kvv hs (Kvx h rfl)
 simp only at hN
 subst hN
 obtain ⟨x0,y0,r0⟩:=ih k0 ctx p0 hc (by omega)
 by_cases f0:x0.ffault=0
 rotate_left
 ·exact Kxp (by decide) (by decide) (by decide) hb r0 f0
 obtain ⟨g0,q0,a,na,la,ba⟩:=r0.gd f0
 obtain ⟨c0,t0,ht0,hn0,hz0⟩:=Kxs hs g0
 have L0:=Kvj g0
 have e0:Kls (s,ctx,⟨12,(g:Int),ty,[k0,k1]⟩,0)=some x0:=Kx7 (i:=0) rfl r0 f0
 have C:=Ky9 hs g0 ht0
 have i0:idx x0.fty 0=some c0:=by rw [ht0]; rfl
 by_cases z0:(Ko1 c0).1=4
 rotate_left
 ·have w0:Knv c0=false:=by cases h:Knv c0 with | true=>exact absurd (C.boxB.1 h) z0 | false=>rfl
  refine Kx6.bad (f:=7) (p:=[]) ?_ (Kwc (by omega) (Kxa (m:=[]) rfl (Kxj (by decide)) r0 (by simp; omega) f0 (by rw [ht0,Kwm hs hg,if_neg z0]) (by decide))) (by decide) (by simp; omega)
  rw [Klq.eq_def]
  simp [e0,f0,i0,Klr.eq_def,Kny,w0,Klk]
 obtain ⟨m,p,hm,h15,hcg,hq,P⟩:=C.box z0
 have w0:Knv c0=true:=C.boxB.2 z0
 have hle:=sLe hs.tab (Kuc hs) hg
 cases hl:le s n 1 g with
 | false =>
  have hl2:K8n (s,1,(g:Int))=some false:=by rw [← hl]; exact hle
  refine Kx6.bad (f:=8) (p:=[]) ?_ (Kwc (by omega) (Kxa (m:=[]) rfl (Kxj (by decide)) r0 (by simp; omega) f0 (by rw [ht0,Kwm hs hg,if_pos z0,hl]; rfl) (by decide))) (by decide) (by simp; omega)
  rw [Klq.eq_def]
  simp [e0,f0,i0,Klr.eq_def,Kny,w0,hl2,Klk]
 | true =>
 have hl2:K8n (s,1,(g:Int))=some true:=by rw [← hl]; exact hle
 have o0:=Kxc (out:=[]) (nd:=[]) (us:=[]) (w:=0) (t:=⟨12,(g:Int),ty,[k0,k1]⟩) (m:=[]) rfl (Kxj (by decide)) r0 (by simp; omega) f0 (by rw [ht0,Kwm hs hg,if_pos z0,hl]; rfl) (Kwe (show (12:Int) ≠ 10 by decide)) na (by simp <;> omega) (by simp) (by simp) (by simp) (by simp)
 have hp0:Ki0 (x0.fty,0)=some p:=by rw [hq,hcg]; exact P.p0
 have ad:Klu (⟨12,(g:Int),ty,[k0,k1]⟩,((1:Nat):Int),y0.fty)=some [p]:=by rw [r0.ty,hq,hcg]; exact Kxi P
 have hm':∀ z ∈ [p],TyS s z:=fun z hz=>by simp at hz; rw [hz]; exact P.ya
 have hgr:Khc c0=some (m:Int):=by rw [hcg]; exact Ky7 m h15
 have m1:Kw1 ⟨12,(g:Int),ty,[k0,k1]⟩ [y0] 1=some [p]:=Kxl (by decide) ad
 have p1':Kvw s ([p] ++ ctx).length k1 (tsz (⟨12,(g:Int),ty,[k0,k1]⟩:K02)):=by
  have e:([p] ++ ctx).length=ctx.length + Kp6 12 1:=by simp [Kp6]
  rw [e]; exact p1
 obtain ⟨x1,y1,r1⟩:=ih k1 ([p] ++ ctx) p1' (fun z hz=>by rcases List.mem_append.1 hz with hz | hz; exact hm' z hz; exact hc z hz) (by simp; omega)
 have hwc:=Kv8 ctx [p] (by simp; omega)
 by_cases f1:x1.ffault=0
 rotate_left
 ·have e1:Kls (s,p :: ctx,⟨12,(g:Int),ty,[k0,k1]⟩,1)=some ⟨[],[],x1.ffault,1 :: x1.fpath⟩:=Kx8 (i:=1) rfl r1 (by omega) f1
  refine Kx6.bad (f:=x1.ffault) (p:=1 :: x1.fpath) ?_ (Kwc (by omega) (o0.trans (Kx9 (m:=[p]) rfl m1 r1 (by omega) (by simp; omega) f1))) f1 (by have:=r1.pl; simp; omega)
  rw [Klq.eq_def]
  simp [e0,f0,i0,Klr.eq_def,Kny,w0,hl2,hp0,hwc,e1,f1]
 obtain ⟨g1,q1,b,nb,lb,bb⟩:=r1.gd f1
 obtain ⟨c1,t1,ht1,hn1,hz1⟩:=Kxs hs g1
 have L1:=Kvj g1
 have e1:Kls (s,p :: ctx,⟨12,(g:Int),ty,[k0,k1]⟩,1)=some x1:=Kx7 (i:=1) rfl r1 f1
 have lb':b.length=ctx.length + 1:=by rw [lb]; simp
 obtain ⟨u0,b',rfl⟩:∃ u0 b',b=u0 :: b':=by match b,lb' with | u0 :: b',_=>exact ⟨u0,b',rfl⟩ | [],h=>simp at h
 obtain ⟨hu0,bb'⟩:=Kum bb
 have o1:=Kxc (out:=[y0]) (nd:=[Ku5 a]) (us:=[Ku5 []]) (w:=1) (t:=⟨12,(g:Int),ty,[k0,k1]⟩) (m:=[p]) rfl m1 r1 (by simp; omega) f1 (by rw [ht1]; exact Kwg (.inr (by decide))) (Kwe (show (12:Int) ≠ 10 by decide)) nb (by simp <;> omega) (by simp) (by simp) (by simp) (by simp)
 simp only [List.length_cons,List.length_nil,Nat.zero_add,List.drop_succ_cons,List.drop_zero,List.take_succ_cons,List.take_zero,List.nil_append] at o1
 have hl0:=o0.trans (o1.trans (Kw4 (Nat.le_refl _)))
 have lbc:b'.length=ctx.length:=by simp at lb'; omega
 have i1:idx x1.fneeds 0=some (u0:Int):=by rw [nb]; rfl
 have hcut:cut x1.fneeds (some (1:Int)) none none=some (Ku5 b'):=by
  rw [nb]
  have:=Kw6 (l:=Ku5 (u0 :: b')) (m:=1) (by simp [Ku5])
  exact this
 have hcp:=Kpu (Ku5 b') (by rw [Ku6]; omega)
 have hmul:=Kn0 hs.tab hg hm
 have htm:=Kmv hs.tab hg hm
 have hle0:=sLe hs.tab hu0 htm
 have hf:=Kx2 (ty:=ty) (ks:=[k0,k1]) (ctx:=ctx) (z:=Ku5 (List.replicate ctx.length 0)) (y0:=y0) (y1:=y1) (us':=Ku5 []) (u:=[u0]) hs hg hm (p:=p) (by rw [r0.ty,hq,hcg]) (fun x hx=>by simp at hx; rw [hx]; exact hu0) (by simp) ba bb' (by omega) (by omega) (by rw [r1.ty]; omega)
 simp only [List.all_cons,List.all_nil,Bool.and_true] at hf
 have es:=e1
 cases hal:(le s n u0 (ti s n g m)) with
 | false =>
  rw [hal,if_neg (by decide)] at hf
  refine Kx6.bad (f:=9) (p:=[]) ?_ (Kwd (by omega) hl0 hf) (by decide) (by simp; omega)
  rw [Klq.eq_def]
  simp [e0,f0,i0,Klr.eq_def,Kny,w0,hl2,hp0,hwc,e1,f1,i1,hcut,hcp,hgr,hmul,hle0,hal,Klk]
 | true =>
  rw [hal,if_pos rfl] at hf
  have im:=Kxo (q:=y1.fty) (ns:=Kui s n (Kuj s n g a) b') (kids:=[y0,y1]) (by rw [r1.ty]; omega) (Kwd (by omega) hl0 hf)
  rw [r1.ty] at im
  have lsc:(Kuj s n g a).length=ctx.length:=by unfold Kuj; rw [List.length_map]; exact la
  have hsc:=Kup hs hg ba
  have hz0:=Kus hs hsc
  rw [lsc] at hz0
  have hsum:=Kuu hs g hg (List.replicate ctx.length 0) a (fun x hx=>by rw [List.eq_of_mem_replicate hx]; exact Kud hs) ba (by simp; omega) (by simp [la])
  rw [hz0] at hsum
  have hs2:=Kuv hs (Kuj s n g a) b' hsc bb' (by omega) (by omega)
  refine Kx6.good (q:=x1.fty) (ns:=Kui s n (Kuj s n g a) b') (kids:=[y0,y1]) ?_ im (by omega) g1 (by unfold Kui; rw [List.length_zipWith]; omega) (Kuo hs hsc bb') rfl (kd2 (Kx5.mk' (Kxd (by decide) rfl) r0 f0 (fun _ h=>by cases h) rfl) (Kx5.mk' ad r1 f1 hm' rfl))
  rw [Klq.eq_def]
  simp [e0,f0,i0,Klr.eq_def,Kny,w0,hl2,hp0,hwc,e1,f1,i1,hcut,hcp,hgr,hmul,hle0,hal,na,Kv7 ctx.length (by omega),hsum,hs2]
theorem Kyd (ih:Kxn s n (tsz (⟨8,N,ty,ks⟩:K02))) (h:tOk (gN s.fSize true) (yN s.fSize true) ctx.length ⟨8,N,ty,ks⟩=true) (hc:∀ q ∈ ctx,TyS s q) (hb:ctx.length + 2 * tsz (⟨8,N,ty,ks⟩:K02) ≤ 1000000):∃ x y,Kx6 s n ctx ⟨8,N,ty,ks⟩ x y:=by
 obtain ⟨k0,k1,k2,rfl,p0,p1,p2⟩:=nd3 h (Nat.le_refl _) rfl
 have hz:=Ktl 8 N ty k0 k1 k2
 obtain ⟨g,hN,hg⟩:=Kvv hs (Kvx h rfl)
 simp only at hN
 subst hN
 obtain ⟨x0,y0,r0⟩:=ih k0 ctx p0 hc (by omega)
 by_cases f0:x0.ffault=0
 rotate_left
 ·exact Kxp (by decide) (by decide) (by decide) hb r0 f0
 obtain ⟨g0,q0,a,na,la,ba⟩:=r0.gd f0
 obtain ⟨c0,t0,ht0,hn0,hz0⟩:=Kxs hs g0
 have L0:=Kvj g0
 have e0:Kls (s,ctx,⟨8,(g:Int),ty,[k0,k1,k2]⟩,0)=some x0:=Kx7 (i:=0) rfl r0 f0
 have C:=Ky9 hs g0 ht0
 have i0:idx x0.fty 0=some c0:=by rw [ht0]; rfl
 by_cases z0:(Ko1 c0).1=2
 rotate_left
 ·have w0:c0 ≠ 2:=fun h=>z0 (C.two.1 h)
  refine Kx6.bad (f:=5) (p:=[]) ?_ (Kwc (by omega) (Kxa (m:=[]) rfl (Kxj (by decide)) r0 (by simp; omega) f0 (by rw [ht0,Kwl hs hg,if_neg z0]) (by decide))) (by decide) (by simp; omega)
  rw [Klq.eq_def]
  simp [e0,f0,i0,Klr.eq_def,w0,Klk]
 obtain ⟨p,q,hcg,hq,P⟩:=C.sum z0
 have hle:=sLe hs.tab (Kuc hs) hg
 cases hl:le s n 1 g with
 | false =>
  have hl2:K8n (s,1,(g:Int))=some false:=by rw [← hl]; exact hle
  refine Kx6.bad (f:=8) (p:=[]) ?_ (Kwc (by omega) (Kxa (m:=[]) rfl (Kxj (by decide)) r0 (by simp; omega) f0 (by rw [ht0,Kwl hs hg,if_pos z0,hl]; rfl) (by decide))) (by decide) (by simp; omega)
  rw [Klq.eq_def]
  simp [e0,f0,i0,Klr.eq_def,hcg,hl2,Klk]
 | true =>
 have hl2:K8n (s,1,(g:Int))=some true:=by rw [← hl]; exact hle
 have o0:=Kxc (out:=[]) (nd:=[]) (us:=[]) (w:=0) (t:=⟨8,(g:Int),ty,[k0,k1,k2]⟩) (m:=[]) rfl (Kxj (by decide)) r0 (by simp; omega) f0 (by rw [ht0,Kwl hs hg,if_pos z0,hl]; rfl) (Kwe (show (8:Int) ≠ 10 by decide)) na (by simp <;> omega) (by simp) (by simp) (by simp) (by simp)
 have hp0:Ki0 (x0.fty,0)=some p:=by rw [hq,hcg]; exact P.p0
 have hp1:Ki0 (x0.fty,1)=some q:=by rw [hq,hcg]; exact P.p1
 have ad1:Klu (⟨8,(g:Int),ty,[k0,k1,k2]⟩,((1:Nat):Int),y0.fty)=some [p]:=by rw [r0.ty,hq,hcg]; exact Kxg P
 have ad2:Klu (⟨8,(g:Int),ty,[k0,k1,k2]⟩,((2:Nat):Int),y0.fty)=some [q]:=by rw [r0.ty,hq,hcg]; exact Kxh P
 have hm1:∀ z ∈ [p],TyS s z:=fun z hz=>by simp at hz; rw [hz]; exact P.ya
 have hm2:∀ z ∈ [q],TyS s z:=fun z hz=>by simp at hz; rw [hz]; exact P.yb
 have m1:Kw1 ⟨8,(g:Int),ty,[k0,k1,k2]⟩ [y0] 1=some [p]:=Kxl (by decide) ad1
 have p1':Kvw s ([p] ++ ctx).length k1 (tsz (⟨8,(g:Int),ty,[k0,k1,k2]⟩:K02)):=by
  have e:([p] ++ ctx).length=ctx.length + Kp6 8 1:=by simp [Kp6]
  rw [e]; exact p1
 obtain ⟨x1,y1,r1⟩:=ih k1 ([p] ++ ctx) p1' (fun z hz=>by rcases List.mem_append.1 hz with hz | hz; exact hm1 z hz; exact hc z hz) (by simp; omega)
 have hw1:=Kv8 ctx [p] (by simp; omega)
 by_cases f1:x1.ffault=0
 rotate_left
 ·have e1:Kls (s,p :: ctx,⟨8,(g:Int),ty,[k0,k1,k2]⟩,1)=some ⟨[],[],x1.ffault,1 :: x1.fpath⟩:=Kx8 (i:=1) rfl r1 (by omega) f1
  refine Kx6.bad (f:=x1.ffault) (p:=1 :: x1.fpath) ?_ (Kwc (by omega) (o0.trans (Kx9 (m:=[p]) rfl m1 r1 (by omega) (by simp; omega) f1))) f1 (by have:=r1.pl; simp; omega)
  rw [Klq.eq_def]
  simp [e0,f0,i0,Klr.eq_def,hcg,hl2,hp0,hp1,hw1,e1,f1]
 obtain ⟨g1,q1,b,nb,lb,bb⟩:=r1.gd f1
 obtain ⟨c1,t1,ht1,hn1,hz1⟩:=Kxs hs g1
 have L1:=Kvj g1
 have e1:Kls (s,p :: ctx,⟨8,(g:Int),ty,[k0,k1,k2]⟩,1)=some x1:=Kx7 (i:=1) rfl r1 f1
 have lb':b.length=ctx.length + 1:=by rw [lb]; simp
 obtain ⟨u0,b',rfl⟩:∃ u0 b',b=u0 :: b':=by match b,lb' with | u0 :: b',_=>exact ⟨u0,b',rfl⟩ | [],h=>simp at h
 obtain ⟨hu0,bb'⟩:=Kum bb
 have lbc:b'.length=ctx.length:=by simp at lb'; omega
 have i1:idx x1.fneeds 0=some (u0:Int):=by rw [nb]; rfl
 have hcut1:cut x1.fneeds (some (1:Int)) none none=some (Ku5 b'):=by rw [nb]; exact Kru _ _
 have hcp1:=Kpu (Ku5 b') (by rw [Ku6]; omega)
 have o1:=Kxc (out:=[y0]) (nd:=[Ku5 a]) (us:=[Ku5 []]) (w:=1) (t:=⟨8,(g:Int),ty,[k0,k1,k2]⟩) (m:=[p]) rfl m1 r1 (by simp; omega) f1 (by rw [ht1]; exact Kwg (.inr (by decide))) (Kwe (show (8:Int) ≠ 10 by decide)) nb (by simp <;> omega) (by simp) (by simp) (by simp) (by simp)
 simp only [List.length_cons,List.length_nil,Nat.zero_add,List.drop_succ_cons,List.drop_zero,List.take_succ_cons,List.take_zero,List.nil_append,List.cons_append] at o1
 have m2:Kw1 ⟨8,(g:Int),ty,[k0,k1,k2]⟩ [y0,y1] 2=some [q]:=Kxl (by decide) ad2
 have p2':Kvw s ([q] ++ ctx).length k2 (tsz (⟨8,(g:Int),ty,[k0,k1,k2]⟩:K02)):=by
  have e:([q] ++ ctx).length=ctx.length + Kp6 8 2:=by simp [Kp6]
  rw [e]; exact p2
 obtain ⟨x2,y2,r2⟩:=ih k2 ([q] ++ ctx) p2' (fun z hz=>by rcases List.mem_append.1 hz with hz | hz; exact hm2 z hz; exact hc z hz) (by simp; omega)
 have hw2:=Kv8 ctx [q] (by simp; omega)
 by_cases f2:x2.ffault=0
 rotate_left
 ·have e2:Kls (s,q :: ctx,⟨8,(g:Int),ty,[k0,k1,k2]⟩,2)=some ⟨[],[],x2.ffault,2 :: x2.fpath⟩:=Kx8 (i:=2) rfl r2 (by omega) f2
  refine Kx6.bad (f:=x2.ffault) (p:=2 :: x2.fpath) ?_ (Kwc (by omega) (o0.trans (o1.trans (Kx9 (m:=[q]) rfl m2 r2 (by omega) (by simp; omega) f2)))) f2 (by have:=r2.pl; simp; omega)
  rw [Klq.eq_def]
  simp [e0,f0,i0,Klr.eq_def,hcg,hl2,hp0,hp1,hw1,e1,f1,hcut1,hcp1,hw2,e2,f2]
 obtain ⟨g2,q2,d,nd,ld,bd⟩:=r2.gd f2
 obtain ⟨c2,t2,ht2,hn2,hz2⟩:=Kxs hs g2
 have L2:=Kvj g2
 have e2:Kls (s,q :: ctx,⟨8,(g:Int),ty,[k0,k1,k2]⟩,2)=some x2:=Kx7 (i:=2) rfl r2 f2
 have ld':d.length=ctx.length + 1:=by rw [ld]; simp
 obtain ⟨v0,d',rfl⟩:∃ v0 d',d=v0 :: d':=by match d,ld' with | v0 :: d',_=>exact ⟨v0,d',rfl⟩ | [],h=>simp at h
 obtain ⟨hv0,bd'⟩:=Kum bd
 have ldc:d'.length=ctx.length:=by simp at ld'; omega
 have i2:idx x2.fneeds 0=some (v0:Int):=by rw [nd]; rfl
 have hcut2:cut x2.fneeds (some (1:Int)) none none=some (Ku5 d'):=by rw [nd]; exact Kru _ _
 have o2:=Kxc (out:=[y0,y1]) (nd:=[Ku5 a,Ku5 b']) (us:=[Ku5 [],Ku5 [u0]]) (w:=2) (t:=⟨8,(g:Int),ty,[k0,k1,k2]⟩) (m:=[q]) rfl m2 r2 (by simp; omega) f2 (by rw [ht2]; exact Kwg (.inr (by decide))) (Kwe (show (8:Int) ≠ 10 by decide)) nd (by simp <;> omega) (by simp) (by simp) (by simp) (by simp)
 simp only [List.length_cons,List.length_nil,Nat.zero_add,List.drop_succ_cons,List.drop_zero,List.take_succ_cons,List.take_zero,List.nil_append,List.cons_append] at o2
 have hl0:=o0.trans (o1.trans (o2.trans (Kw4 (Nat.le_refl _))))
 have hle0:=sLe hs.tab hu0 hg
 have hle1:=sLe hs.tab hv0 hg
 have hf:=Kx3 (ty:=ty) (ks:=[k0,k1,k2]) (ctx:=ctx) (z:=Ku5 (List.replicate ctx.length 0)) (y0:=y0) (y1:=y1) (y2:=y2) (us':=Ku5 []) (u:=[u0]) (v:=[v0]) hs hg (fun x hx=>by simp at hx; rw [hx]; exact hu0) (by simp) (fun x hx=>by simp at hx; rw [hx]; exact hv0) (by simp) ba bb' bd' (by omega) (by omega) (by omega) (by rw [r2.ty]; omega) (by rw [r1.ty]; omega)
 simp only [List.all_cons,List.all_nil,Bool.and_true] at hf
 rw [r1.ty,r2.ty] at hf
 have hsm:=Ksu x1.fty x2.fty (by omega)
 have hj:=Kux hs b' d' bb' bd' (by omega) (by omega)
 have lj:(Kuk s n b' d').length=ctx.length:=by unfold Kuk; rw [List.length_zipWith]; omega
 by_cases hqq:x1.fty=x2.fty
 rotate_left
 ·rw [if_neg hqq] at hf
  rw [show (x1.fty == x2.fty)=false from beq_eq_false_iff_ne.2 hqq] at hsm
  refine Kx6.bad (f:=3) (p:=[]) ?_ (Kwd (by omega) hl0 hf) (by decide) (by simp; omega)
  rw [Klq.eq_def]
  simp [e0,f0,i0,Klr.eq_def,hcg,hl2,hp0,hp1,hw1,e1,f1,hcut1,hcp1,hw2,e2,f2,hsm,Klk]
 rw [if_pos hqq] at hf
 rw [show (x1.fty == x2.fty)=true from beq_iff_eq.2 hqq] at hsm
 by_cases hal:le s n u0 g=true∧le s n v0 g=true
 rotate_left
 ·rw [if_neg hal] at hf
  refine Kx6.bad (f:=9) (p:=[]) ?_ (Kwd (by omega) hl0 hf) (by decide) (by simp; omega)
  rw [Klq.eq_def]
  simp [e0,f0,i0,Klr.eq_def,hcg,hl2,hp0,hp1,hw1,e1,f1,hcut1,hcp1,hw2,e2,f2,hsm,i1,i2,hle0,hle1,hcut2,hj,Klk]
  cases q1:le s n v0 g with
  | false=>simp
  | true =>
   cases q2:le s n u0 g with
   | false=>simp
   | true=>exact absurd ⟨q2,q1⟩ hal
 rw [if_pos hal] at hf
 have im:=Kxo (q:=x1.fty) (ns:=Kui s n (Kuj s n g a) (Kuk s n b' d')) (kids:=[y0,y1,y2]) (by omega) (Kwd (by omega) hl0 hf)
 have lsc:(Kuj s n g a).length=ctx.length:=by unfold Kuj; rw [List.length_map]; exact la
 have hsc:=Kup hs hg ba
 have hz0:=Kus hs hsc
 rw [lsc] at hz0
 have hsum:=Kuu hs g hg (List.replicate ctx.length 0) a (fun x hx=>by rw [List.eq_of_mem_replicate hx]; exact Kud hs) ba (by simp; omega) (by simp [la])
 rw [hz0] at hsum
 have hs2:=Kuv hs (Kuj s n g a) (Kuk s n b' d') hsc (Kuq hs bb' bd') (by omega) (by omega)
 refine Kx6.good (q:=x1.fty) (ns:=Kui s n (Kuj s n g a) (Kuk s n b' d')) (kids:=[y0,y1,y2]) ?_ im (by omega) g1 (by unfold Kui; rw [List.length_zipWith]; omega) (Kuo hs hsc (Kuq hs bb' bd')) rfl (kd3 (Kx5.mk' (Kxd (by decide) rfl) r0 f0 (fun _ h=>by cases h) rfl) (Kx5.mk' ad1 r1 f1 hm1 rfl) (Kx5.mk' ad2 r2 f2 hm2 rfl))
 rw [Klq.eq_def]
 simp [e0,f0,i0,Klr.eq_def,hcg,hl2,hp0,hp1,hw1,e1,f1,hcut1,hcp1,hw2,e2,f2,hsm,i1,i2,hle0,hle1,hal.1,hal.2,hcut2,hj,na,Kv7 ctx.length (by omega),hsum,hs2]
theorem Kye:∀ (m:Nat) (t:K02) (ctx:List (List Int)),tsz t ≤ m→tOk (gN s.fSize true) (yN s.fSize true) ctx.length t=true→(∀ q ∈ ctx,TyS s q)→ctx.length + 2 * tsz t ≤ 1000000→∃ x y,Kx6 s n ctx t x y
 | 0,t,ctx,hm,_,_,_=>by obtain ⟨op,N,ty,ks⟩:=t; rw [tsz] at hm; omega
 | m + 1,t,ctx,hm,h,hc,hb=>by
  have ih:Kxn s n (tsz t):=fun k c hk hc hb=>Kye m k c (by have:=hk.sz; omega) hk.ok hc hb
  obtain ⟨op,N,ty,ks⟩:=t
  have hop:=(Kpt (Kpq h).1).1
  simp only at hop
  rcases Kp0 hop with rfl | rfl | rfl | rfl | rfl | rfl | rfl | rfl | rfl | rfl | rfl | rfl | rfl
  ·exact Kxq hs rfl h hc hb
  ·exact Kxr hs rfl h hb
  ·exact Kxy hs ih h hc hb
  ·exact Kxz hs ih h hc hb
  ·exact Kxx hs ih h hc hb
  ·exact Kyb hs ih h hc hb
  ·exact Kxt hs ih h hc hb
  ·exact Kxu hs ih h hc hb
  ·exact Kyd hs ih h hc hb
  ·exact Kxw hs ih h hc hb
  ·exact Kya hs ih h hc hb
  ·exact Kxv hs ih h hc hb
  ·exact Kyc hs ih h hc hb
end
def Gv {α:Type} (x:Option α) (Q:α→Prop):Prop:=∃ a,x=some a∧Q a
theorem Gv.of {α:Type} {a:α} {Q:α→Prop} (h:Q a):Gv (some a) Q:=⟨a,rfl,h⟩
theorem Gv.eq {α:Type} {x:Option α} {a:α} {Q:α→Prop} (e:x=some a) (h:Q a):Gv x Q:=⟨a,e,h⟩
theorem Gv.bind {α β:Type} {x:Option α} {f:α→Option β} {Q:α→Prop} {R:β→Prop} (h:Gv x Q) (hf:∀ a,Q a→Gv (f a) R):Gv (x >>= f) R:=by
 obtain ⟨a,rfl,hq⟩:=h
 exact hf a hq
theorem Gv.ite {α:Type} {b:Bool} {x y:Option α} {Q:α→Prop} (h1:b=true→Gv x Q) (h2:b=false→Gv y Q):Gv (if b=true then x else y) Q:=by
 cases b
 ·exact h2 rfl
 ·exact h1 rfl
structure Kyf (c:K01):Prop where
 lo:0 ≤ c.fi
 hi:c.fi ≤ c.fb.length
 ln:c.fb.length ≤ 1048576
 by_:∀ v ∈ c.fb,0 ≤ v∧v ≤ 255
theorem Kyg (x:Int):0 ≤ Q2p .and .i64 x 255∧Q2p .and .i64 x 255 ≤ 255:=by
 have h:(BitVec.ofInt 64 x &&& BitVec.ofInt 64 255).toNat ≤ 255:=by
  rw [BitVec.toNat_and]
  exact Nat.le_trans Nat.and_le_right (by decide)
 have e:Q2p .and .i64 x 255=wr (((BitVec.ofInt 64 x &&& BitVec.ofInt 64 255).toNat:Nat):Int):=rfl
 rw [e,Kmm (by omega) (by omega)]
 omega
theorem Kyh {α:Type} {l:List α} {i:Int} (h0:0 ≤ i) (h:i < l.length):∃ v,idx l i=some v∧v ∈ l:=by
 have hi:i.toNat < l.length:=by omega
 refine ⟨l[i.toNat],?_,List.getElem_mem hi⟩
 unfold idx
 rw [if_pos h0,List.getElem?_eq_getElem hi]
theorem Kyi (code:List Int) (hl:code.length ≤ 1048576):∀ (k i:Nat) (h:Int),i + k=code.length→Gv (K6t (code,h,(i:Int))) (fun _=>True):=by
 intro k
 induction k with
 | zero =>
  intro i h hi
  rw [K6t.eq_def]
  simp only
  rw [Kmq (by omega),if_neg (by decide),bs,if_neg (by decide)]
  exact .of trivial
 | succ k ih =>
  intro i h hi
  rw [K6t.eq_def]
  simp only
  rw [Kmp (by omega),if_pos rfl,bs]
  refine .ite (fun _=>?_) (fun _=>.of trivial)
  rw [Kmn (by omega),bs,Kmo (by omega)]
  exact ih (i + 1) _ (by omega)
theorem Kyj (code:List Int) (hl:code.length ≤ 1048576) (hb:∀ v ∈ code,0 ≤ v∧v ≤ 255):Gv (K6w code) Kyf:=by
 unfold K6w
 refine Gv.bind (Kyi code hl code.length 0 _ (by omega)) (fun h _=>.of ⟨Int.le_refl _,?_,hl,hb⟩)
 simp
theorem Kyk {c:K01} (h:Kyf c):Gv (K6z c) (fun r=>(0 ≤ r.1∧r.1 ≤ 255)∧Kyf r.2):=by
 unfold K6z
 by_cases hi:c.fi < c.fb.length
 ·obtain ⟨v,e,hv⟩:=Kyh h.lo hi
  have h3:=h.ln
  have h4:=h.lo
  rw [decide_eq_true hi,if_pos rfl,e,bs,bs]
  refine .of ⟨Kyg _,⟨?_,?_,h.ln,h.by_⟩⟩
  ·simp only
   rw [Kmm (by omega) (by omega)]; omega
  ·simp only
   rw [Kmm (by omega) (by omega)]; omega
 ·rw [decide_eq_false hi,if_neg (by decide),bs]
  exact .of ⟨Kyg _,⟨h.lo,h.hi,h.ln,h.by_⟩⟩
def Kyl (n:Int) (x:Int):Prop:=(0 < n→0 ≤ x∧x < n)∧(n ≤ 0→x=0)
theorem Kym {c:K01} (h:Kyf c) (n:Int):Gv (K72 (c,n)) (fun r=>Kyl n r.1∧Kyf r.2):=by
 unfold K72
 simp only
 refine .ite (fun hb=>?_) (fun hb=>?_)
 ·have hb:=of_decide_eq_true hb
  exact .of ⟨⟨fun h=>absurd h (by omega),fun _=>rfl⟩,h⟩
 have hb:=of_decide_eq_false hb
 have tm:∀ x:Int,0 ≤ x→Kyl n (Int.tmod x n):=fun x hx=>⟨fun hn=>⟨Int.tmod_nonneg n hx,Int.tmod_lt_of_pos x hn⟩,fun hn=>absurd hn (by omega)⟩
 have ck:chk (n ≠ 0)=some ():=by unfold chk; rw [if_pos (by omega)]
 refine .ite (fun _=>?_) (fun _=>?_)
 ·refine Gv.bind (Kyk h) ?_
  rintro ⟨x,c1⟩ ⟨hx,h1⟩
  simp only at hx h1 ⊢
  rw [ck,bs]
  exact .of ⟨tm _ hx.1,h1⟩
 ·refine Gv.bind (Kyk h) ?_
  rintro ⟨x,c1⟩ ⟨hx,h1⟩
  simp only at hx h1 ⊢
  refine Gv.bind (Kyk h1) ?_
  rintro ⟨y,c2⟩ ⟨hy,h2⟩
  simp only at hy h2 ⊢
  refine Gv.bind (Kyk h2) ?_
  rintro ⟨z,c3⟩ ⟨hz,h3⟩
  simp only at hz h3 ⊢
  refine Gv.bind (Kyk h3) ?_
  rintro ⟨w,c4⟩ ⟨hw,h4⟩
  simp only at hw h4 ⊢
  rw [ck,bs]
  refine .of ⟨?_,h4⟩
  simp only
  have e1:wr (x * 16777216)=x * 16777216:=Kmm (by omega) (by omega)
  have e2:wr (y * 65536)=y * 65536:=Kmm (by omega) (by omega)
  have e3:wr (z * 256)=z * 256:=Kmm (by omega) (by omega)
  rw [e1,e2,e3,Kmm (x:=x * 16777216 + y * 65536) (by omega) (by omega),Kmm (x:=x * 16777216 + y * 65536 + z * 256) (by omega) (by omega),Kmm (x:=x * 16777216 + y * 65536 + z * 256 + w) (by omega) (by omega)]
  exact tm _ (by omega)
theorem Kyn {c:K01} (h:Kyf c) (n:Int):Gv (Kby (c,n)) (fun r=>Kyf r.2):=by
 unfold Kby
 refine Gv.bind (Kym h n) ?_
 rintro ⟨x,c1⟩ ⟨_,h1⟩
 exact .of h1
theorem Kyo {c:K01} (h:Kyf c) (l:List Int) (hl:0 < l.length):Gv (Kc1 (c,l)) (fun r=>r.1 ∈ l∧Kyf r.2):=by
 unfold Kc1
 refine Gv.bind (Kym h _) ?_
 rintro ⟨x,c1⟩ ⟨⟨hx,_⟩,h1⟩
 simp only at hx h1 ⊢
 have:=hx (by omega)
 obtain ⟨v,e,hv⟩:=Kyh this.1 this.2
 rw [e,bs]
 exact .of ⟨hv,h1⟩
theorem Kyp {c:K01} (h:Kyf c):Gv (Kc4 c) (fun r=>(-9223372036854775808 ≤ r.1∧r.1 ≤ 9223372036854775807)∧Kyf r.2):=by
 unfold Kc4
 refine Gv.bind (Kyo h _ (by decide)) ?_
 rintro ⟨x,c1⟩ ⟨hx,h1⟩
 refine .of ⟨?_,h1⟩
 simp only [List.mem_cons,List.not_mem_nil,or_false] at hx
 simp only
 omega
def Kyq (n a b:Nat):Int:=((min (a + b) (n + 1):Nat):Int)
def Kyr (n a b:Nat):Int:=((min (a * b) (n + 1):Nat):Int)
def Kys (n:Nat) (bd:Bool) (a b:Nat):Bool:=(a == b) || (b == n + 1) || (bd && decide (a ≤ b))
def Kyt (n:Nat) (bd:Bool):K00:=⟨((n + 2:Nat):Int),(List.range' 0 (n + 2)).flatMap (fun a=>(List.range' 0 (n + 2)).map (Kyq n a)),(List.range' 0 (n + 2)).flatMap (fun a=>(List.range' 0 (n + 2)).map (Kyr n a)),(List.range' 0 (n + 2)).flatMap (fun a=>(List.range' 0 (n + 2)).map (Kys n bd a))⟩
theorem Kyu {a b:Nat} (h:a ≤ b):decide ((a:Int) ≤ (b:Int))=true:=decide_eq_true (by omega)
theorem Kyv {a b:Nat} (h:b < a):decide ((a:Int) ≤ (b:Int))=false:=decide_eq_false (by omega)
theorem Kyw (n a:Nat) (bd:Bool) (hn:n ≤ 14) (ha:a ≤ n + 1):∀ (k b:Nat) (P T:List Int) (B:List Bool),b + k=n + 2→P.length ≤ 1000000→T.length ≤ 1000000→B.length ≤ 1000000→P.length + k ≤ 1000000→T.length + k ≤ 1000000→B.length + k ≤ 1000000 →
  K7c ((n:Int),bd,(a:Int),P,T,B,(b:Int))=some (P ++ (List.range' b k).map (Kyq n a),T ++ (List.range' b k).map (Kyr n a),B ++ (List.range' b k).map (Kys n bd a)):=by
 intro k
 induction k with
 | zero =>
  intro b P T B hb _ _ _ _ _ _
  rw [K7c.eq_def]
  simp only
  rw [Kmo (by omega),Kyv (by omega),if_neg (by decide)]
  simp
 | succ k ih =>
  intro b P T B hb h1 h2 h3 h4 h5 h6
  have hab:a * b ≤ 16 * 16:=Nat.mul_le_mul (by omega) (by omega)
  have e2:wr ((a:Int) * (b:Int))=((a * b:Nat):Int):=by
   rw [← Int.natCast_mul,Kmm (by omega) (by omega)]
  rw [K7c.eq_def]
  simp only
  rw [Kmo (n:=n) (by omega),Kyu (by omega),if_pos rfl,Kri (by omega) (by omega),Krj,bs,e2,Krj,bs,Kps (by simp; omega),bs,Kps (by simp; omega),bs]
  have e3:((if ((a:Int) == (b:Int))=true then Qe5 (B.length + [true].length) 1 >>= fun _=>some (B ++ [true]) else if ((b:Int) == ((n + 1:Nat):Int))=true then Qe5 (B.length + [true].length) 1 >>= fun _=>some (B ++ [true]) else if bd=true then Qe5 (B.length + [decide ((a:Int) ≤ (b:Int))].length) 1 >>= fun _=>some (B ++ [decide ((a:Int) ≤ (b:Int))]) else Qe5 (B.length + [false].length) 1 >>= fun _=>some (B ++ [false])):Option (List Bool))=some (B ++ [Kys n bd a b]):=by
   have f:∀ x:Bool,Qe5 (B.length + [x].length) 1=some ():=fun x=>Kps (by simp; omega)
   rw [f,f,f,bs,bs,bs,Kn3,Kn3]
   unfold Kys
   by_cases q1:a=b
   ·rw [if_pos (by simp [q1])]; simp [q1]
   ·rw [if_neg (by simp [q1])]
    by_cases q2:b=n + 1
    ·rw [if_pos (by simp [q2])]; simp [q2]
    ·rw [if_neg (by simp [q2])]
     cases bd with
     | false=>simp [q1,q2]
     | true=>simp [q1,q2]
  rw [e3,bs,Kmo (by omega),ih (b + 1) _ _ _ (by omega) (by simp; omega) (by simp; omega) (by simp; omega) (by simp; omega) (by simp; omega) (by simp; omega)]
  simp [List.range'_succ,Kyq,Kyr]
theorem Kyx (n:Nat) (bd:Bool) (hn:n ≤ 14):∀ (k a:Nat) (P T:List Int) (B:List Bool),a + k=n + 2→P.length + k * 16 ≤ 10000→T.length + k * 16 ≤ 10000→B.length + k * 16 ≤ 10000 →
  K7g ((n:Int),bd,P,T,B,(a:Int))=some (P ++ (List.range' a k).flatMap (fun a=>(List.range' 0 (n + 2)).map (Kyq n a)),T ++ (List.range' a k).flatMap (fun a=>(List.range' 0 (n + 2)).map (Kyr n a)),B ++ (List.range' a k).flatMap (fun a=>(List.range' 0 (n + 2)).map (Kys n bd a))):=by
 intro k
 induction k with
 | zero =>
  intro a P T B hb _ _ _
  rw [K7g.eq_def]
  simp only
  rw [Kmo (by omega),Kyv (by omega),if_neg (by decide)]
  simp
 | succ k ih =>
  intro a P T B hb h1 h2 h3
  rw [K7g.eq_def]
  simp only
  rw [Kmo (n:=n) (by omega),Kyu (by omega),if_pos rfl,show (0:Int)=((0:Nat):Int) from rfl,Kyw n a bd hn (by omega) (n + 2) 0 P T B (by omega) (by omega) (by omega) (by omega) (by omega) (by omega) (by omega),bs]
  simp only
  rw [Kmo (by omega),ih (a + 1) _ _ _ (by omega) (by simp; omega) (by simp; omega) (by simp; omega)]
  simp [List.range'_succ,List.flatMap_cons]
theorem Kyy (n:Nat) (bd:Bool) (h1:1 ≤ n) (h2:n ≤ 14):K7j ((n:Int),bd)=some (Kyt n bd):=by
 unfold K7j
 simp only
 rw [sIn,bs,show inB (n:Int) 1 14=true from by unfold inB; rw [decide_eq_true (by omega),decide_eq_true (by omega)]; rfl,if_pos rfl,show (0:Int)=((0:Nat):Int) from rfl,Kyx n bd h2 (n + 2) 0 [] [] [] (by omega) (by simp; omega) (by simp; omega) (by simp; omega),bs]
 simp only
 rw [show wr ((n:Int) + 2)=((n + 2:Nat):Int) from by rw [Kmm (by omega) (by omega)]; omega]
 rfl
theorem Kyz (n:Nat) (h1:1 ≤ n) (h2:n ≤ 14):K7p (n:Int)=some (Kyt n false):=by unfold K7p; rw [Kyy n false h1 h2]; rfl
theorem Kz0 (n:Nat) (h1:1 ≤ n) (h2:n ≤ 14):K7m (n:Int)=some (Kyt n true):=by unfold K7m; rw [Kyy n true h1 h2]; rfl
def Kz1 (n a:Nat):Nat:=(n + 1 - a) % (n + 1)
def Kz2 (n a b:Nat):Int:=(((n + 1 - max (Kz1 n a) (Kz1 n b)) % (n + 1):Nat):Int)
def Kz3 (n a b:Nat):Int:=(((n + 1 - min (Kz1 n a) (Kz1 n b)) % (n + 1):Nat):Int)
def Kz4 (n a b:Nat):Bool:=decide (Kz1 n a ≤ Kz1 n b)
def Kz5 (n:Nat):K00:=⟨((n + 1:Nat):Int),(List.range' 0 (n + 1)).flatMap (fun a=>(List.range' 0 (n + 1)).map (Kz2 n a)),(List.range' 0 (n + 1)).flatMap (fun a=>(List.range' 0 (n + 1)).map (Kz3 n a)),(List.range' 0 (n + 1)).flatMap (fun a=>(List.range' 0 (n + 1)).map (Kz4 n a))⟩
theorem Kz6 (a b:Nat):K7s ((a:Int),(b:Int))=some ((max a b:Nat):Int):=by
 unfold K7s
 simp only
 by_cases h:b < a
 ·rw [decide_eq_true (by omega),if_pos rfl,Nat.max_eq_left (by omega)]
 ·rw [decide_eq_false (by omega),if_neg (by decide),Nat.max_eq_right (by omega)]
theorem Kz7 (a b:Nat):Int.tmod (a:Int) (b:Int)=((a % b:Nat):Int):=(Int.ofNat_tmod a b).symm
theorem Kz8 (n a:Nat) (hn:n ≤ 1000) (ha:a ≤ n + 1):Int.tmod (wr (((n + 1:Nat):Int) - (a:Int))) ((n + 1:Nat):Int)=(((n + 1 - a) % (n + 1):Nat):Int):=by
 rw [Kmm (by omega) (by omega),show ((n + 1:Nat):Int) - (a:Int)=((n + 1 - a:Nat):Int) from by omega,Kz7]
theorem Kz9 (n a:Nat):Kz1 n a ≤ n:=by
 have:=Nat.mod_lt (n + 1 - a) (show 0 < n + 1 by omega)
 unfold Kz1
 omega
theorem Kza (n a:Nat) (hn:n ≤ 15) (ha:a ≤ n):∀ (k b:Nat) (P T:List Int) (B:List Bool),b + k=n + 1→P.length + k ≤ 1000000→T.length + k ≤ 1000000→B.length + k ≤ 1000000 →
  K7w ((n:Int),(a:Int),P,T,B,(b:Int))=some (P ++ (List.range' b k).map (Kz2 n a),T ++ (List.range' b k).map (Kz3 n a),B ++ (List.range' b k).map (Kz4 n a)):=by
 intro k
 induction k with
 | zero =>
  intro b P T B hb _ _ _
  rw [K7w.eq_def]
  simp only
  rw [Kyv (by omega),if_neg (by decide)]
  simp
 | succ k ih =>
  intro b P T B hb h4 h5 h6
  have ck:chk (((n + 1:Nat):Int) ≠ 0)=some ():=by unfold chk; rw [if_pos (by omega)]
  have m1:=Kz9 n a
  have m2:=Kz9 n b
  have x1:Int.tmod (wr (((n + 1:Nat):Int) - (a:Int))) ((n + 1:Nat):Int)=((Kz1 n a:Nat):Int):=Kz8 n a (by omega) (by omega)
  have x2:Int.tmod (wr (((n + 1:Nat):Int) - (b:Int))) ((n + 1:Nat):Int)=((Kz1 n b:Nat):Int):=Kz8 n b (by omega) (by omega)
  rw [K7w.eq_def]
  simp only
  rw [Kyu (by omega),if_pos rfl,Kmo (n:=n) (by omega),ck,bs,bs,x1,x2,Kz6,bs,bs,Krj,bs,bs,Kz8 n _ (by omega) (by omega),Kz8 n _ (by omega) (by omega),Kps (by simp; omega),bs,Kps (by simp; omega),bs,Kps (by simp; omega),bs,Kmo (by omega),ih (b + 1) _ _ _ (by omega) (by simp; omega) (by simp; omega) (by simp; omega)]
  simp [List.range'_succ,Kz2,Kz3,Kz4]
theorem Kzb (n:Nat) (hn:n ≤ 15):∀ (k a:Nat) (P T:List Int) (B:List Bool),a + k=n + 1→P.length + k * 16 ≤ 10000→T.length + k * 16 ≤ 10000→B.length + k * 16 ≤ 10000 →
  K80 ((n:Int),P,T,B,(a:Int))=some (P ++ (List.range' a k).flatMap (fun a=>(List.range' 0 (n + 1)).map (Kz2 n a)),T ++ (List.range' a k).flatMap (fun a=>(List.range' 0 (n + 1)).map (Kz3 n a)),B ++ (List.range' a k).flatMap (fun a=>(List.range' 0 (n + 1)).map (Kz4 n a))):=by
 intro k
 induction k with
 | zero =>
  intro a P T B hb _ _ _
  rw [K80.eq_def]
  simp only
  rw [Kyv (by omega),if_neg (by decide)]
  simp
 | succ k ih =>
  intro a P T B hb h1 h2 h3
  rw [K80.eq_def]
  simp only
  rw [Kyu (by omega),if_pos rfl,show (0:Int)=((0:Nat):Int) from rfl,Kza n a hn (by omega) (n + 1) 0 P T B (by omega) (by omega) (by omega) (by omega),bs]
  simp only
  rw [Kmo (by omega),ih (a + 1) _ _ _ (by omega) (by simp; omega) (by simp; omega) (by simp; omega)]
  simp [List.range'_succ,List.flatMap_cons]
theorem Kzc (n:Nat) (h1:1 ≤ n) (h2:n ≤ 15):K83 (n:Int)=some (Kz5 n):=by
 unfold K83
 rw [sIn,bs,show inB (n:Int) 1 15=true from by unfold inB; rw [decide_eq_true (by omega),decide_eq_true (by omega)]; rfl,if_pos rfl,show (0:Int)=((0:Nat):Int) from rfl,Kzb n h2 (n + 1) 0 [] [] [] (by omega) (by simp; omega) (by simp; omega) (by simp; omega),bs]
 simp only
 rw [Kmo (by omega)]
 rfl
def Kzd (n g:Nat):Nat:=if g=0 then 0 else if g=1 then 1 else if g ≤ n + 1 then (g - 1) / n else g / n
def Kze (n g:Nat):Nat:=if g < 2 then g else if g ≤ n + 1 then (g - 1) % n else g % n
def Kzf (n x y:Nat):Nat:=if x * n + y=0 then 0 else if x * n + y=n + 1 then 1 else if x * n + y < n + 1 then x * n + y + 1 else x * n + y
theorem Kzg (a b:Nat):Int.tdiv (a:Int) (b:Int)=((a / b:Nat):Int):=(Int.ofNat_tdiv a b).symm
theorem Kzh (n g:Nat) (hn:1 ≤ n) (hn2:n ≤ 100) (hg:g ≤ 1000):K9u ((n:Int),(g:Int))=some ((Kzd n g:Nat):Int):=by
 have ck:chk ((n:Int) ≠ 0)=some ():=by unfold chk; rw [if_pos (by omega)]
 have hd:∀ x,x ≤ 1000→x / n ≤ 1000:=fun x hx=>Nat.le_trans (Nat.div_le_self _ _) hx
 unfold K9u Kzd
 simp only
 by_cases h0:g=0
 ·rw [if_pos (by simp [h0]),if_pos h0]; rfl
 rw [if_neg (by simpa using h0),if_neg h0]
 by_cases h1:g=1
 ·rw [if_pos (by simp [h1]),if_pos h1]; rfl
 rw [if_neg (by simp; omega),if_neg h1,Kmo (by omega)]
 by_cases h2:g ≤ n + 1
 ·rw [Kyu h2,if_pos rfl,if_pos h2,ck,bs,Kmm (x:=(g:Int) - 1) (by omega) (by omega),show (g:Int) - 1=((g - 1:Nat):Int) from by omega,Kzg]
  have:=hd (g - 1) (by omega)
  generalize (g - 1) / n=q at *
  rw [Kmm (by omega) (by omega)]
 ·rw [Kyv (by omega),if_neg (by decide),if_neg h2,ck,bs,Kzg]
  have:=hd g hg
  generalize g / n=q at *
  rw [Kmm (by omega) (by omega)]
theorem Kzi (n g:Nat) (hn:1 ≤ n) (hn2:n ≤ 100) (hg:g ≤ 1000):K9x ((n:Int),(g:Int))=some ((Kze n g:Nat):Int):=by
 have ck:chk ((n:Int) ≠ 0)=some ():=by unfold chk; rw [if_pos (by omega)]
 unfold K9x Kze
 simp only
 by_cases h0:g < 2
 ·rw [decide_eq_true (by omega),if_pos rfl,if_pos h0]
 rw [decide_eq_false (by omega),if_neg (by decide),if_neg h0,Kmo (by omega)]
 by_cases h2:g ≤ n + 1
 ·rw [Kyu h2,if_pos rfl,if_pos h2,ck,bs,Kmm (x:=(g:Int) - 1) (by omega) (by omega),show (g:Int) - 1=((g - 1:Nat):Int) from by omega,Kz7]
 ·rw [Kyv (by omega),if_neg (by decide),if_neg h2,ck,bs,Kz7]
theorem Kzj (n x y:Nat) (hn:n ≤ 100) (hx:x ≤ 100) (hy:y ≤ 100):Ka0 ((n:Int),(x:Int),(y:Int))=some ((Kzf n x y:Nat):Int):=by
 have hxn:x * n ≤ 100 * 100:=Nat.mul_le_mul hx hn
 have e:wr (wr ((x:Int) * (n:Int)) + (y:Int))=((x * n + y:Nat):Int):=by
  rw [← Int.natCast_mul,Kmm (x:=((x * n:Nat):Int)) (by omega) (by omega),Kmm (by omega) (by omega)]; omega
 unfold Ka0 Kzf
 simp only
 rw [e,Kmo (n:=n) (by omega)]
 by_cases h0:x * n + y=0
 ·rw [if_pos (by rw [h0]; rfl),if_pos h0]; rfl
 rw [if_neg (by simp; omega),if_neg h0]
 by_cases h1:x * n + y=n + 1
 ·rw [if_pos (by rw [h1]; simp),if_pos h1]; rfl
 rw [if_neg (by simp; omega),if_neg h1]
 by_cases h2:x * n + y < n + 1
 ·rw [Kmp h2,if_pos rfl,if_pos h2,Kmo (by omega)]
 ·rw [Kmq (by omega),if_neg (by decide),if_neg h2]
theorem Kzk {m n g:Nat} (hm:2 ≤ m) (hn:2 ≤ n) (h:g < m * n):Kzd n g < m:=by
 unfold Kzd
 split
 ·omega
 split
 ·omega
 split
 ·refine Nat.div_lt_of_lt_mul ?_
  rw [Nat.mul_comm]; omega
 ·exact Nat.div_lt_of_lt_mul (by rw [Nat.mul_comm]; exact h)
theorem Kzl {n g:Nat} (hn:2 ≤ n):Kze n g < n:=by
 unfold Kze
 split
 ·omega
 split
 ·exact Nat.mod_lt _ (by omega)
 ·exact Nat.mod_lt _ (by omega)
def Kzm (a b:K00) (m n g h:Nat):Int:=((Kzf n (pl a m (Kzd n g) (Kzd n h)) (pl b n (Kze n g) (Kze n h)):Nat):Int)
def Kzn (a b:K00) (m n g h:Nat):Int:=((Kzf n (ti a m (Kzd n g) (Kzd n h)) (ti b n (Kze n g) (Kze n h)):Nat):Int)
def Kzo (a b:K00) (m n g h:Nat):Bool:=le a m (Kzd n g) (Kzd n h) && le b n (Kze n g) (Kze n h)
def Kzp (a b:K00) (m n:Nat):K00:=⟨((m * n:Nat):Int),(List.range' 0 (m * n)).flatMap (fun g=>(List.range' 0 (m * n)).map (Kzm a b m n g)),(List.range' 0 (m * n)).flatMap (fun g=>(List.range' 0 (m * n)).map (Kzn a b m n g)),(List.range' 0 (m * n)).flatMap (fun g=>(List.range' 0 (m * n)).map (Kzo a b m n g))⟩
theorem Kzq {m n:Nat} (hm:2 ≤ m) (hn:2 ≤ n) (hmn:m * n ≤ 16):m ≤ 16∧n ≤ 16:=⟨Nat.le_trans (Nat.le_mul_of_pos_right m (by omega)) hmn,Nat.le_trans (Nat.le_mul_of_pos_left n (by omega)) hmn⟩
section
variable {a b:K00} {m n:Nat} (ta:Tab a m) (tb:Tab b n) (hm:2 ≤ m) (hn:2 ≤ n) (hmn:m * n ≤ 16)
include ta tb hm hn hmn
theorem Kzr {g:Nat} (hg:g < m * n):∀ (k h:Nat) (P T:List Int) (B:List Bool),h + k=m * n→P.length + k ≤ 1000000→T.length + k ≤ 1000000→B.length + k ≤ 1000000 →
  Ka4 (a,b,(g:Int),P,T,B,(h:Int))=some (P ++ (List.range' h k).map (Kzm a b m n g),T ++ (List.range' h k).map (Kzn a b m n g),B ++ (List.range' h k).map (Kzo a b m n g)):=by
 obtain ⟨hm16,hn16⟩:=Kzq hm hn hmn
 have hN:wr (a.fSize * b.fSize)=((m * n:Nat):Int):=by
  rw [ta.size,tb.size,← Int.natCast_mul,Kmm (by omega) (by omega)]
 intro k
 induction k with
 | zero =>
  intro h P T B hb _ _ _
  rw [Ka4.eq_def]
  simp only
  rw [hN,Kmq (by omega),if_neg (by decide)]
  simp
 | succ k ih =>
  intro h P T B hb h4 h5 h6
  have f1:=Kzk hm hn hg
  have f2:=Kzk hm hn (show h < m * n by omega)
  have s1:Kze n g < n:=Kzl hn
  have s2:Kze n h < n:=Kzl hn
  have p1:=Kmu ta f1 f2
  have p2:=Kmu tb s1 s2
  have t1:=Kmv ta f1 f2
  have t2:=Kmv tb s1 s2
  rw [Ka4.eq_def]
  simp only
  rw [hN,Kmp (by omega),if_pos rfl,tb.size,Kzh n g (by omega) (by omega) (by omega),bs,Kzi n g (by omega) (by omega) (by omega),bs,Kzh n h (by omega) (by omega) (by omega),bs,Kzi n h (by omega) (by omega) (by omega),bs,
   Kmz ta f1 f2,bs,Kmz tb s1 s2,bs,Kzj n _ _ (by omega) (by omega) (by omega),bs,Kps (by simp; omega),bs,Kn0 ta f1 f2,bs,Kn0 tb s1 s2,bs,Kzj n _ _ (by omega) (by omega) (by omega),bs,Kps (by simp; omega),bs,sLe ta f1 f2,bs,sLe tb s1 s2,bs]
  have f:∀ x:Bool,Qe5 (B.length + [x].length) 1=some ():=fun x=>Kps (by simp; omega)
  have e3:((if le a m (Kzd n g) (Kzd n h)=true then Qe5 (B.length + [le b n (Kze n g) (Kze n h)].length) 1 >>= fun _=>some (B ++ [le b n (Kze n g) (Kze n h)]) else Qe5 (B.length + [false].length) 1 >>= fun _=>some (B ++ [false])):Option (List Bool))=some (B ++ [Kzo a b m n g h]):=by
   rw [f,f,bs,bs]
   unfold Kzo
   cases le a m (Kzd n g) (Kzd n h) <;> rfl
  rw [e3,bs,Kmo (by omega),ih (h + 1) _ _ _ (by omega) (by simp; omega) (by simp; omega) (by simp; omega)]
  simp [List.range'_succ,Kzm,Kzn]
theorem Kzs:∀ (k g:Nat) (P T:List Int) (B:List Bool),g + k=m * n→P.length + k * 16 ≤ 10000→T.length + k * 16 ≤ 10000→B.length + k * 16 ≤ 10000 →
  Ka8 (a,b,P,T,B,(g:Int))=some (P ++ (List.range' g k).flatMap (fun g=>(List.range' 0 (m * n)).map (Kzm a b m n g)),T ++ (List.range' g k).flatMap (fun g=>(List.range' 0 (m * n)).map (Kzn a b m n g)),B ++ (List.range' g k).flatMap (fun g=>(List.range' 0 (m * n)).map (Kzo a b m n g))):=by
 have hN:wr (a.fSize * b.fSize)=((m * n:Nat):Int):=by
  rw [ta.size,tb.size,← Int.natCast_mul,Kmm (by omega) (by omega)]
 intro k
 induction k with
 | zero =>
  intro g P T B hb _ _ _
  rw [Ka8.eq_def]
  simp only
  rw [hN,Kmq (by omega),if_neg (by decide)]
  simp
 | succ k ih =>
  intro g P T B hb h1 h2 h3
  rw [Ka8.eq_def]
  simp only
  rw [hN,Kmp (by omega),if_pos rfl,show (0:Int)=((0:Nat):Int) from rfl,Kzr ta tb hm hn hmn (by omega) (m * n) 0 P T B (by omega) (by omega) (by omega) (by omega),bs]
  simp only
  rw [Kmo (by omega),ih (g + 1) _ _ _ (by omega) (by simp; omega) (by simp; omega) (by simp; omega)]
  simp [List.range'_succ,List.flatMap_cons]
theorem Kzt (sa:Kq6 a=true) (sb:Kq6 b=true):Kab (a,b)=some (Kzp a b m n,true):=by
 have hN:wr (a.fSize * b.fSize)=((m * n:Nat):Int):=by
  rw [ta.size,tb.size,← Int.natCast_mul,Kmm (by omega) (by omega)]
 unfold Kab K9r
 simp only
 rw [Kq8,Kq8,bs,sa,if_pos rfl,bs,sb,if_pos rfl,bs,hN,decide_eq_true (by omega),bs,if_pos rfl,show (0:Int)=((0:Nat):Int) from rfl,Kzs ta tb hm hn hmn (m * n) 0 [] [] [] (by omega) (by simp; omega) (by simp; omega) (by simp; omega),bs]
 rfl
end
def Kzu:K00:=⟨3,[0,1,2,1,2,2,2,2,2],[0,0,0,0,1,2,0,2,2],[true,true,true,false,true,true,false,false,true]⟩
def Kzv:K00:=⟨4,[0,1,2,3,1,2,3,3,2,3,3,3,3,3,3,3],[0,0,0,0,0,1,2,3,0,2,3,3,0,3,3,3],[true,true,true,true,false,true,true,true,false,false,true,true,false,false,false,true]⟩
def Kzw:K00:=⟨5,[0,1,2,3,4,1,2,3,4,4,2,3,4,4,4,3,4,4,4,4,4,4,4,4,4],[0,0,0,0,0,0,1,2,3,4,0,2,4,4,4,0,3,4,4,4,0,4,4,4,4],[true,true,true,true,true,false,true,true,true,true,false,false,true,true,true,false,false,false,true,true,false,false,false,false,true]⟩
def Kzx:K00:=⟨3,[0,1,2,1,2,2,2,2,2],[0,0,0,0,1,2,0,2,2],[true,false,true,false,true,true,false,false,true]⟩
def Kzy:K00:=⟨4,[0,1,2,3,1,2,3,3,2,3,3,3,3,3,3,3],[0,0,0,0,0,1,2,3,0,2,3,3,0,3,3,3],[true,false,false,true,false,true,false,true,false,false,true,true,false,false,false,true]⟩
def Kzz:K00:=⟨5,[0,1,2,3,4,1,2,3,4,4,2,3,4,4,4,3,4,4,4,4,4,4,4,4,4],[0,0,0,0,0,0,1,2,3,4,0,2,4,4,4,0,3,4,4,4,0,4,4,4,4],[true,false,false,false,true,false,true,false,false,true,false,false,true,false,true,false,false,false,true,true,false,false,false,false,true]⟩
def V00:K00:=⟨2,[0,1,1,1],[0,0,0,1],[true,true,false,true]⟩
def V01:K00:=⟨3,[0,1,2,1,1,1,2,1,2],[0,0,0,0,1,2,0,2,2],[true,true,true,false,true,false,false,true,true]⟩
def V02:K00:=⟨4,[0,1,2,3,1,1,1,1,2,1,2,2,3,1,2,3],[0,0,0,0,0,1,2,3,0,2,2,3,0,3,3,3],[true,true,true,true,false,true,false,false,false,true,true,false,false,true,true,true]⟩
def V03:K00:=⟨6,[0,1,2,3,4,5,1,5,1,5,5,5,2,1,2,1,5,5,3,5,1,4,4,5,4,5,5,4,4,5,5,5,5,5,5,5],[0,0,0,0,0,0,0,1,2,3,4,5,0,2,2,0,0,2,0,3,0,3,4,4,0,4,0,4,4,4,0,5,2,4,4,5],[true,false,true,false,true,true,false,true,false,false,false,true,false,false,true,false,false,true,false,true,false,true,true,true,false,false,false,false,true,true,false,false,false,false,false,true]⟩
def V04:K00:=⟨9,[0,1,2,3,4,5,6,7,8,1,7,1,1,7,7,7,7,7,2,1,2,2,1,1,7,7,7,3,1,2,3,5,5,8,7,8,4,7,1,5,6,8,6,7,8,5,7,1,5,8,8,8,7,8,6,7,7,8,6,8,6,7,8,7,7,7,7,7,7,7,7,7,8,7,7,8,8,8,8,7,8],[0,0,0,0,0,0,0,0,0,0,1,2,3,4,5,6,7,8,0,2,2,3,0,3,0,2,3,0,3,3,3,0,3,0,3,3,0,4,0,0,4,4,6,6,6,0,5,3,3,4,5,6,8,8,0,6,0,0,6,6,6,6,6,0,7,2,3,6,8,6,7,8,0,8,3,3,6,8,6,8,8],[true,false,true,true,false,false,true,true,true,false,true,false,false,false,false,false,true,false,false,false,true,false,false,false,false,true,false,false,false,true,true,false,false,false,true,true,false,true,false,false,true,true,true,true,true,false,true,false,false,false,true,false,true,true,false,false,false,false,false,false,true,true,true,false,false,false,false,false,false,false,true,false,false,false,false,false,false,false,false,true,true]⟩
theorem V05:Kyt 1 true=Kzu:=by kernel_rfl
theorem V06:Kq6 Kzu=true:=by kernel_rfl
theorem V07:Kyt 2 true=Kzv:=by kernel_rfl
theorem V08:Kq6 Kzv=true:=by kernel_rfl
theorem V09:Kyt 3 true=Kzw:=by kernel_rfl
theorem V0a:Kq6 Kzw=true:=by kernel_rfl
theorem V0b:Kyt 1 false=Kzx:=by kernel_rfl
theorem V0c:Kq6 Kzx=true:=by kernel_rfl
theorem V0d:Kyt 2 false=Kzy:=by kernel_rfl
theorem V0e:Kq6 Kzy=true:=by kernel_rfl
theorem V0f:Kyt 3 false=Kzz:=by kernel_rfl
theorem V0g:Kq6 Kzz=true:=by kernel_rfl
theorem V0h:Kz5 1=V00:=by kernel_rfl
theorem V0i:Kq6 V00=true:=by kernel_rfl
theorem V0j:Kz5 2=V01:=by kernel_rfl
theorem V0k:Kq6 V01=true:=by kernel_rfl
theorem V0l:Kz5 3=V02:=by kernel_rfl
theorem V0m:Kq6 V02=true:=by kernel_rfl
theorem V0n:Kzp Kzx V00 3 2=V03:=by kernel_rfl
theorem V0o:Kq6 V03=true:=by kernel_rfl
theorem V0p:Kzp Kzx V01 3 3=V04:=by kernel_rfl
theorem V0q:Kq6 V04=true:=by kernel_rfl
def V0r:List K00:=[Kzu,Kzv,Kzw,Kzx,Kzy,Kzz,V00,V01,V02,V03,V04]
theorem V0s {s:K00} (h:s ∈ V0r):Kq6 s=true∧(2 ≤ s.fSize∧s.fSize ≤ 9)∧sms s ≤ 300:=by
 simp only [V0r,List.mem_cons,List.not_mem_nil,or_false] at h
 rcases h with rfl | rfl | rfl | rfl | rfl | rfl | rfl | rfl | rfl | rfl | rfl
 ·exact ⟨V06,by decide,by decide⟩
 ·exact ⟨V08,by decide,by decide⟩
 ·exact ⟨V0a,by decide,by decide⟩
 ·exact ⟨V0c,by decide,by decide⟩
 ·exact ⟨V0e,by decide,by decide⟩
 ·exact ⟨V0g,by decide,by decide⟩
 ·exact ⟨V0i,by decide,by decide⟩
 ·exact ⟨V0k,by decide,by decide⟩
 ·exact ⟨V0m,by decide,by decide⟩
 ·exact ⟨V0o,by decide,by decide⟩
 ·exact ⟨V0q,by decide,by decide⟩
theorem V0t (x:Int) (h:Kyl 3 x):x=0∨x=1∨x=2:=by
 have:=h.1 (by decide)
 omega
theorem V0u {x:Int} (h:Kyl 3 x):Gv (K7m (wr (1 + x))) (fun s=>s ∈ V0r):=by
 rcases V0t x h with rfl | rfl | rfl
 ·exact .eq (Kz0 1 (by decide) (by decide)) (by rw [V05]; simp [V0r])
 ·exact .eq (Kz0 2 (by decide) (by decide)) (by rw [V07]; simp [V0r])
 ·exact .eq (Kz0 3 (by decide) (by decide)) (by rw [V09]; simp [V0r])
theorem V0v {x:Int} (h:Kyl 3 x):Gv (K7p (wr (1 + x))) (fun s=>s ∈ V0r):=by
 rcases V0t x h with rfl | rfl | rfl
 ·exact .eq (Kyz 1 (by decide) (by decide)) (by rw [V0b]; simp [V0r])
 ·exact .eq (Kyz 2 (by decide) (by decide)) (by rw [V0d]; simp [V0r])
 ·exact .eq (Kyz 3 (by decide) (by decide)) (by rw [V0f]; simp [V0r])
theorem V0w {x:Int} (h:Kyl 3 x):Gv (K83 (wr (1 + x))) (fun s=>s ∈ V0r):=by
 rcases V0t x h with rfl | rfl | rfl
 ·exact .eq (Kzc 1 (by decide) (by decide)) (by rw [V0h]; simp [V0r])
 ·exact .eq (Kzc 2 (by decide) (by decide)) (by rw [V0j]; simp [V0r])
 ·exact .eq (Kzc 3 (by decide) (by decide)) (by rw [V0l]; simp [V0r])
theorem V0x {c:K01} (h:Kyf c):Gv (Kae c) (fun r=>r.1 ∈ V0r∧Kyf r.2):=by
 unfold Kae
 refine Gv.bind (Kym h 3) ?_
 rintro ⟨x,c1⟩ ⟨hx,h1⟩
 simp only at hx h1 ⊢
 refine Gv.bind (V0u hx) (fun s0 hs0=>?_)
 refine Gv.bind (Kym h1 8) ?_
 rintro ⟨y,c2⟩ ⟨hy,h2⟩
 simp only at hy h2 ⊢
 have fin:∀ (R:Int × List Int × List Int × List Bool × List Int × Int × Int→Prop),True:=fun _=>trivial
 refine Gv.bind (Q:=fun _=>True) (.ite (fun _=>.of trivial) (fun _=>Gv.bind (Q:=fun _=>True) (.ite (fun _=>.of trivial) (fun _=>.of trivial)) (fun _ _=>.of trivial))) (fun j5 _=>?_)
 refine Gv.bind (Q:=fun r:Int × List Int × List Int × List Bool × List Int × Int × Int=>(⟨r.1,r.2.1,r.2.2.1,r.2.2.2.1⟩:K00) ∈ V0r∧Kyf ⟨r.2.2.2.2.1,r.2.2.2.2.2.1,r.2.2.2.2.2.2⟩) (.ite (fun _=>?_) (fun _=>?_)) ?_
 ·exact Gv.bind (V0v hx) (fun s hs=>.of ⟨hs,h2⟩)
 ·refine Gv.bind (Q:=fun _=>True) (.ite (fun _=>.of trivial) (fun _=>.of trivial)) (fun j9 _=>?_)
  refine Gv.bind (Q:=fun r:Int × List Int × List Int × List Bool × List Int × Int × Int=>(⟨r.1,r.2.1,r.2.2.1,r.2.2.2.1⟩:K00) ∈ V0r∧Kyf ⟨r.2.2.2.2.1,r.2.2.2.2.2.1,r.2.2.2.2.2.2⟩) (.ite (fun _=>?_) (fun _=>?_)) (by rintro ⟨a,b,d,e,f,g,i⟩ q; exact .of q)
  ·exact Gv.bind (V0w hx) (fun s hs=>.of ⟨hs,h2⟩)
  ·refine Gv.bind (Q:=fun r:Int × List Int × List Int × List Bool × List Int × Int × Int=>(⟨r.1,r.2.1,r.2.2.1,r.2.2.2.1⟩:K00) ∈ V0r∧Kyf ⟨r.2.2.2.2.1,r.2.2.2.2.2.1,r.2.2.2.2.2.2⟩) (.ite (fun _=>?_) (fun _=>.of ⟨hs0,h2⟩)) (by rintro ⟨a,b,d,e,f,g,i⟩ q; exact .of q)
   rw [show (1:Int)=((1:Nat):Int) from rfl,Kyz 1 (by decide) (by decide),V0b,bs]
   refine Gv.bind (Kym h2 2) ?_
   rintro ⟨z,c3⟩ ⟨hz,h3⟩
   simp only at hz h3 ⊢
   have hz:=hz.1 (by decide)
   have t3:Tab Kzx 3:=Kq7 V0c
   rcases (show z=0∨z=1 by omega) with rfl | rfl
   ·have e:wr (((1:Nat):Int) + 0)=((1:Nat):Int):=rfl
    rw [e,Kzc 1 (by decide) (by decide),V0h,bs,Kzt (m:=3) (n:=2) t3 (Kq7 V0i) (by decide) (by decide) (by decide) V0c V0i,V0n,bs]
    exact .of ⟨by simp [V0r],h3⟩
   ·have e:wr (((1:Nat):Int) + 1)=((2:Nat):Int):=rfl
    rw [e,Kzc 2 (by decide) (by decide),V0j,bs,Kzt (m:=3) (n:=3) t3 (Kq7 V0k) (by decide) (by decide) (by decide) V0c V0k,V0p,bs]
    exact .of ⟨by simp [V0r],h3⟩
 ·rintro ⟨a,b,d,e,f,g,i⟩ q
  exact .of q
theorem V0y (c:Int) (a:List Int) (h:a.length ≤ 1000000):Kal (c,[a])=some (c :: a):=by
 rw [Kva c [a] (by simp) (by simp; omega)]; simp
theorem V0z (c:Int) (a b:List Int) (h:a.length + b.length ≤ 1000000):Kal (c,[a,b])=some (c :: (a ++ b)):=by
 rw [Kva c [a,b] (by simp) (by simp; omega)]; simp
theorem V10 (d:Nat) (hd:d ≤ 10):2 ^ d ≤ 1024:=Nat.le_trans (Nat.pow_le_pow_right (by decide) hd) (by decide)
theorem V11 {s:K00}:∀ (d:Nat) (c:K01) (data:Bool),d ≤ 8→Kyf c→Gv (Kao (c,s,(d:Int),data)) (fun r=>(1 ≤ r.1.length∧r.1.length + 1 ≤ 2 ^ (d + 1))∧Kyf r.2):=by
 intro d
 induction d with
 | zero =>
  intro c data _ h
  rw [Kao.eq_def]
  simp only
  refine Gv.bind (Kym h 6) ?_
  rintro ⟨x,c1⟩ ⟨hx,h1⟩
  simp only at hx h1 ⊢
  rw [show decide (((0:Nat):Int) ≤ 0)=true from rfl,if_pos rfl,bs,if_pos rfl]
  exact .of ⟨⟨by simp,by simp⟩,h1⟩
 | succ d ih =>
  intro c data hd h
  have hp:=V10 (d + 1) (by omega)
  have hpe:2 ^ (d + 1 + 1)=2 ^ (d + 1) + 2 ^ (d + 1):=by rw [Nat.pow_succ]; omega
  have hp1:2 ≤ 2 ^ (d + 1):=Nat.le_trans (by decide) (Nat.pow_le_pow_right (n:=2) (by decide) (show 1 ≤ d + 1 by omega))
  have wd:wr (((d + 1:Nat):Int) - 1)=((d:Nat):Int):=by rw [Kmm (by omega) (by omega)]; omega
  rw [Kao.eq_def]
  simp only
  refine Gv.bind (Kym h 6) ?_
  rintro ⟨x,c1⟩ ⟨hx,h1⟩
  simp only at hx h1 ⊢
  rw [show decide (((d + 1:Nat):Int) ≤ 0)=false from decide_eq_false (by omega),if_neg (by decide),bs]
  refine .ite (fun _=>.of ⟨⟨by simp,by simp; omega⟩,h1⟩) (fun _=>?_)
  rw [wd]
  refine Gv.bind (ih c1 data (by omega) h1) ?_
  rintro ⟨a,c2⟩ ⟨ha,h2⟩
  simp only at ha h2 ⊢
  refine .ite (fun _=>?_) (fun _=>?_)
  ·refine Gv.bind (Kym h2 _) ?_
   rintro ⟨y,c3⟩ ⟨hy,h3⟩
   simp only at hy h3 ⊢
   rw [V0y _ _ (by omega),bs]
   exact .of ⟨by simp; omega,h3⟩
  refine Gv.bind (Q:=fun _=>True) (.ite (fun _=>.of trivial) (fun _=>.of trivial)) (fun v _=>?_)
  refine .ite (fun _=>?_) (fun _=>.ite (fun _=>?_) (fun _=>?_))
  ·refine Gv.bind (Kym h2 _) ?_
   rintro ⟨y,c3⟩ ⟨hy,h3⟩
   simp only at hy h3 ⊢
   refine Gv.bind (ih c3 data (by omega) h3) ?_
   rintro ⟨b,c4⟩ ⟨hb,h4⟩
   simp only at hb h4 ⊢
   rw [V0z _ _ _ (by omega),bs]
   exact .of ⟨by simp; omega,h4⟩
  ·refine Gv.bind (ih c2 data (by omega) h2) ?_
   rintro ⟨b,c4⟩ ⟨hb,h4⟩
   simp only at hb h4 ⊢
   rw [V0z _ _ _ (by omega),bs]
   exact .of ⟨by simp; omega,h4⟩
  ·refine Gv.bind (ih c2 data (by omega) h2) ?_
   rintro ⟨b,c4⟩ ⟨hb,h4⟩
   simp only at hb h4 ⊢
   rw [V0z _ _ _ (by omega),bs]
   exact .of ⟨by simp; omega,h4⟩
structure V12 (s:K00) (ctx:List (List Int)) (t:K02) (y:Klg):Prop where
 ok:tOk (gN s.fSize true) (yN s.fSize true) ctx.length t=true
 cx:∀ q ∈ ctx,TyS s q
 bd:ctx.length + 2 * tsz t ≤ 1000000
 im:Kmk (⟨s⟩,ctx,t)=some y
 fa:y.ffault=0
section
variable {s:K00} {n:Nat} (hs:Kua s n) {ctx:List (List Int)} {t:K02} {y:Klg}
include hs
theorem V12.tell (g:V12 s ctx t y):∃ x,Kx6 s n ctx t x y∧x.ffault=0∧x.fty=y.fty∧TyS s y.fty:=by
 obtain ⟨x,y',r⟩:=Kye hs (tsz t) t ctx (Nat.le_refl _) g.ok g.cx g.bd
 have e:=r.im
 rw [g.im] at e
 cases e
 have hf:x.ffault=0:=by rw [← r.fa]; exact g.fa
 exact ⟨x,r,hf,r.ty.symm,by rw [r.ty]; exact (r.gd hf).1⟩
theorem V12.kid (g:V12 s ctx t y) {i:Nat} {k:K02} (hk:t.fKids[i]?=some k):∃ yk,y.fkids[i]?=some yk∧V12 s (Kx4 t i y.fkids ++ ctx) k yk∧(Kx4 t i y.fkids).length=Kp6 t.fOp i:=by
 obtain ⟨x,r,hf,_⟩:=g.tell hs
 obtain ⟨yk,h1,h2⟩:=(r.kd hf).2 i k hk
 obtain ⟨hi,hg⟩:=List.getElem?_eq_some_iff.1 hk
 have hm:k ∈ t.fKids:=hg ▸ List.getElem_mem hi
 have h3:=Krv t.fKids t.fOp ctx.length 0 i hi (Kpq g.ok).2
 rw [hg,Nat.zero_add] at h3
 have h4:=Krq hm
 have h5:=Kp7 t.fOp (i:Int)
 have h6:=g.bd
 have h7:=h2.ln
 refine ⟨yk,h1,⟨?_,?_,?_,h2.im,h2.fa⟩,h7⟩
 ·rw [List.length_append,h7,Nat.add_comm]; exact h3
 ·intro q hq
  rcases List.mem_append.1 hq with hq | hq
  ·exact h2.ty q hq
  ·exact g.cx q hq
 ·rw [List.length_append,h7]; omega
theorem V12.first (g:V12 s ctx t y) (h0:0 < t.fKids.length) (ha:Kp6 t.fOp ((0:Nat):Int)=0):∃ k0 y0 x0 l,t.fKids[0]?=some k0∧y.fkids=y0 :: l∧(Kx6 s n ctx k0 x0 y0∧x0.ffault=0)∧Klq (s,ctx,k0)=some x0∧x0.fty=y0.fty∧TyS s y0.fty:=by
 have hk:t.fKids[0]?=some t.fKids[0]:=List.getElem?_eq_getElem h0
 obtain ⟨y0,h1,h2,h3⟩:=g.kid hs hk
 rw [ha] at h3
 rw [List.eq_nil_of_length_eq_zero h3,List.nil_append] at h2
 obtain ⟨x0,r,hf,h4,h5⟩:=h2.tell hs
 cases e:y.fkids with
 | nil=>rw [e] at h1; cases h1
 | cons z l =>
  rw [e] at h1
  cases h1
  exact ⟨_,_,x0,l,hk,rfl,⟨r,hf⟩,r.sp,h4,h5⟩
end
def V13 (s:K00) (m b:Nat) (t:K02):Prop:=tOk (gN s.fSize true) (yN s.fSize true) m t=true∧tsz t ≤ b
mutual
theorem V14 {g g':Int→Bool} {y y':List Int→Bool} (hg:∀ x,g x=true→g' x=true) (hy:∀ q,y q=true→y' q=true):∀ (t:K02) (n:Nat),tOk g y n t=true→tOk g' y' n t=true
 | ⟨op,N,ty,ks⟩,n,h=>by
  rw [Kt2,Bool.and_eq_true] at h ⊢
  refine ⟨?_,V15 hg hy ks op n 0 h.2⟩
  have h1:=h.1
  unfold Kpc Kpa Kpb at h1 ⊢
  simp only [Bool.and_eq_true] at h1 ⊢
  refine ⟨⟨h1.1.1,?_⟩,?_⟩
  ·have h2:=h1.1.2
   split at h2
   ·rename_i q; rw [if_pos q]; exact h2
   ·rename_i q
    rw [if_neg q]
    split at h2
    ·rename_i q2; rw [if_pos q2]; exact h2
    ·rename_i q2
     rw [if_neg q2]
     split at h2
     ·rename_i q3; rw [if_pos q3]; exact hg _ h2
     ·rename_i q3; rw [if_neg q3]; exact h2
  ·have h2:=h1.2
   split at h2
   ·rename_i q; rw [if_pos q]; exact hy _ h2
   ·rename_i q; rw [if_neg q]; exact h2
theorem V15 {g g':Int→Bool} {y y':List Int→Bool} (hg:∀ x,g x=true→g' x=true) (hy:∀ q,y q=true→y' q=true):∀ (ks:List K02) (op:Int) (n i:Nat),Kpd g y op n i ks=true→Kpd g' y' op n i ks=true
 | [],op,n,i,_=>by rw [Kpd]
 | k :: ks,op,n,i,h=>by
  rw [Kt3,Bool.and_eq_true] at h ⊢
  exact ⟨V14 hg hy k _ h.1,V15 hg hy ks op n (i + 1) h.2⟩
end
theorem V13.tms {s:K00} {m b:Nat} {t:K02} (h:V13 s m b t):tms t ≤ 43 * b:=by
 have h1:=V14 (g':=gN s.fSize true) (y':=wtB) (fun _ h=>h) (fun q hq=>by unfold yN at hq; rw [Bool.and_eq_true] at hq; exact hq.1) t m h.1
 have:=(Kth t m h1).1
 have:=h.2
 omega
section
variable {s:K00} {n:Nat} (hs:Kua s n)
include hs
theorem le_refl {a:Nat} (ha:a < n):le s n a a=true:=by
 have:=hs.one a ha
 simp only [Kn5,Bool.and_eq_true] at this
 exact this.2
end
theorem le_trans {s:K00} (h:Kq6 s=true) {a b c:Nat} (ha:a < s.fSize.toNat) (hb:b < s.fSize.toNat) (hc:c < s.fSize.toNat) (h1:le s s.fSize.toNat a b=true) (h2:le s s.fSize.toNat b c=true):le s s.fSize.toNat a c=true:=by
 unfold Kq6 at h
 simp only [Bool.and_eq_true] at h
 have hm:=h.2
 unfold Knl at hm
 rw [List.all_eq_true] at hm
 have q:=hm a (by rw [List.mem_range'_1]; omega)
 simp only [Bool.and_eq_true,List.all_eq_true] at q
 have q2:=(q.2 b (by rw [List.mem_range'_1]; omega)).2 c (by rw [List.mem_range'_1]; omega)
 unfold Kn6 at q2
 simp [h1,h2] at q2
 exact q2.2.1.1.1
theorem V16 {s:K00}:∀ (k i n:Nat) (c:K01) (out:List Int),i + k=n→n ≤ 1000→Kyf c→out.length=i→Gv (Kcb (s,(n:Int),c.fb,c.fi,c.fh,out,(i:Int))) (fun r=>r.1.length=n∧Kyf ⟨r.2.1,r.2.2.1,r.2.2.2⟩):=by
 intro k
 induction k with
 | zero =>
  intro i n c out hi _ h ho
  rw [Kcb.eq_def]
  simp only
  rw [Kmq (by omega),if_neg (by decide)]
  exact .of ⟨by simp only; omega,h⟩
 | succ k ih =>
  intro i n c out hi hn h ho
  rw [Kcb.eq_def]
  simp only
  rw [Kmp (by omega),if_pos rfl]
  have G:Gv (Kc7 (c,s)) (fun r=>Kyf r.2):=by
   unfold Kc7
   simp only
   refine Gv.bind (Kyn h 30) ?_
   rintro ⟨x,c1⟩ h1
   simp only at h1 ⊢
   refine .ite (fun _=>?_) (fun _=>?_)
   ·refine Gv.bind (Kyp h1) ?_
    rintro ⟨y,c2⟩ ⟨_,h2⟩
    exact .of h2
   ·refine Gv.bind (Kym h1 _) ?_
    rintro ⟨y,c2⟩ ⟨_,h2⟩
    exact .of h2
  refine Gv.bind G ?_
  rintro ⟨x,c1⟩ h1
  simp only at h1 ⊢
  rw [Kps (by simp; omega),bs,Kmo (by omega)]
  exact ih (i + 1) n c1 _ (by omega) hn h1 (by simp [ho])
theorem V17 {s:K00} {c:K01} (h:Kyf c) (n:Nat) (hn:n ≤ 1000):Gv (Kce (c,s,(n:Int))) (fun r=>r.1.length=n∧Kyf r.2):=by
 unfold Kce
 simp only
 refine Gv.bind (V16 n 0 n c [] (by omega) hn h rfl) ?_
 rintro ⟨a,b,d,e⟩ ⟨q1,q2⟩
 exact .of ⟨q1,q2⟩
theorem V18 (s:K00) {n:Nat} (hn:s.fSize=(n:Int)) (h16:n ≤ 16) (v:List Bool) (hv:v.length=n):∀ (k i:Nat) (l:List Int),i + k=n→l.length ≤ i→Gv (Kb6 (s,v,l,(i:Int))) (fun r=>r.length ≤ n):=by
 intro k
 induction k with
 | zero =>
  intro i l hi hl
  rw [Kb6.eq_def]
  simp only
  rw [hn,Kmq (by omega),if_neg (by decide)]
  exact .of (by omega)
 | succ k ih =>
  intro i l hi hl
  rw [Kb6.eq_def]
  simp only
  rw [hn,Kmp (by omega),if_pos rfl,Kmn (by omega),bs]
  refine Gv.bind (Q:=fun r:List Int=>r.length ≤ i + 1) (.ite (fun _=>?_) (fun _=>.of (by omega))) (fun r hr=>?_)
  ·rw [Kps (by simp; omega),bs]
   exact .of (by simp; omega)
  ·rw [Kmo (by omega)]
   exact ih (i + 1) r (by omega) hr
theorem V19 (a b:List Int) (hl:a.length ≤ 1000):∀ (k i:Nat),i + k=a.length→∃ r,Kbh (a,b,(i:Int))=some r:=by
 intro k
 induction k with
 | zero =>
  intro i hi
  rw [Kbh.eq_def]
  simp only
  rw [Kmq (by omega),if_neg (by decide),bs,if_neg (by decide)]
  exact ⟨_,rfl⟩
 | succ k ih =>
  intro i hi
  rw [Kbh.eq_def]
  simp only
  rw [Kmp (by omega),if_pos rfl,bs]
  by_cases hb:i < b.length
  ·rw [Kmp hb,if_pos rfl,Kmn (by omega),bs,Kmn hb,bs]
   cases hq:(a[i]'(by omega) != b[i])
   ·rw [if_neg (by decide),Kmo (by omega)]
    exact ih (i + 1) (by omega)
   ·rw [if_pos rfl,bs,bs]
    exact ⟨_,rfl⟩
  ·rw [Kmq (by omega),if_neg (by decide)]
   exact ⟨_,rfl⟩
theorem V1a (a b:List Int) (hl:a.length ≤ 1000):∃ r,Kbk (a,b)=some r:=by
 obtain ⟨r,h⟩:=V19 a b hl a.length 0 (by omega)
 unfold Kbk
 simp only
 rw [show (0:Int)=((0:Nat):Int) from rfl,h,bs]
 cases r <;> exact ⟨_,rfl⟩
theorem V1b (R out:List (List Int)) (i:Nat) (hi:i < R.length) (hR:∀ q ∈ R,q.length ≤ 1000):∀ (k:Nat),k ≤ out.length→out.length ≤ 1000000→Gv (Kbo (R,out,(i:Int),(k:Int))) (fun r=>∃ m:Nat,r=(m:Int)∧m ≤ out.length):=by
 intro k
 induction k with
 | zero =>
  intro hk _
  rw [Kbo.eq_def]
  simp only
  rw [decide_eq_false (by omega),if_neg (by decide),bs,if_neg (by decide)]
  exact .of ⟨0,rfl,by omega⟩
 | succ k ih =>
  intro hk ho
  rw [Kbo.eq_def]
  simp only
  rw [decide_eq_true (by omega),if_pos rfl,Kmn hi,bs,Kmm (x:=((k + 1:Nat):Int) - 1) (by omega) (by omega),show ((k + 1:Nat):Int) - 1=(k:Int) by omega,Kmn (by omega),bs]
  obtain ⟨r,h⟩:=V1a R[i] (out[k]'(by omega)) (hR _ (List.getElem_mem hi))
  rw [h,bs,bs]
  exact .ite (fun _=>ih (by omega) ho) (fun _=>.of ⟨k + 1,rfl,hk⟩)
theorem V1c (R:List (List Int)) {b:Nat} (hb:b ≤ 1000) (hR:∀ q ∈ R,q.length ≤ b) (hl:R.length ≤ 1000000):∀ (k i:Nat) (out:List (List Int)),i + k=R.length→out.length=i→(∀ q ∈ out,q.length ≤ b)→Gv (Kbs (R,out,(i:Int))) (fun r=>∀ q ∈ r,q.length ≤ b):=by
 intro k
 induction k with
 | zero =>
  intro i out hi ho hq
  rw [Kbs.eq_def]
  simp only
  rw [Kmq (by omega),if_neg (by decide)]
  exact .of hq
 | succ k ih =>
  intro i out hi ho hq
  rw [Kbs.eq_def]
  simp only
  rw [Kmp (by omega),if_pos rfl]
  refine Gv.bind (V1b R out i (by omega) (fun q h=>Nat.le_trans (hR q h) hb) out.length (Nat.le_refl _) (by omega)) ?_
  rintro x ⟨m,rfl,hm⟩
  have hlen:(out ++ ([[]]:List (List Int))).length=out.length + 1:=by simp
  have c1:chk (0 < (out ++ ([[]]:List (List Int))).length∧0 ≤ (wr ((m:Int) + 1))∧(wr ((m:Int) + 1)) ≤ ((out ++ ([[]]:List (List Int))).length:Int))=some ():=by
   unfold chk
   rw [if_pos]
   rw [Kmm (by omega) (by omega),hlen]; omega
  have c2:chk (0 < (out ++ ([[]]:List (List Int))).length∧0 ≤ (m:Int)∧(m:Int) ≤ ((out ++ ([[]]:List (List Int))).length:Int))=some ():=by
   unfold chk
   rw [if_pos]
   rw [hlen]; omega
  rw [Kps (by simp; omega),bs,c1,bs,c2,bs,Kmn (by omega),bs,Kmm (x:=(m:Int) + 1) (by omega) (by omega),Int.toNat_natCast,show Int.toNat ((m:Int) + 1)=m + 1 by omega]
  have hcl:=Qap (out ++ ([[]]:List (List Int))) (m + 1) m (by omega) (by omega)
  rw [Kmn (by omega),bs,Kmo (by omega)]
  refine ih (i + 1) _ (by omega) (by rw [List.length_set]; omega) (fun q h=>?_)
  rcases List.mem_or_eq_of_mem_set h with h | rfl
  ·have:q ∈ out ++ ([[]]:List (List Int)):=by
    unfold cpy at h
    rcases List.mem_append.1 h with h | h
    ·exact List.mem_of_mem_take h
    ·rcases List.mem_append.1 h with h | h
     ·exact List.mem_of_mem_drop (List.mem_of_mem_take h)
     ·exact List.mem_of_mem_drop h
   rcases List.mem_append.1 this with h | h
   ·exact hq q h
   ·rw [List.mem_singleton.1 h]; simp
  ·exact hR _ (List.getElem_mem _)
theorem V1d (s:K00) {n:Nat} (hn:s.fSize=(n:Int)) (h16:n ≤ 10) (hview:∀ v:List Bool,v.length=n→∃ b,Kb1 (s,v)=some b):∀ (k g:Nat) (v:List Bool),g + k=n→v.length=n→Gv (Kb9 (s,v,(g:Int))) (fun r=>r.length ≤ 2 ^ k∧∀ q ∈ r,q.length ≤ n):=by
 intro k
 induction k with
 | zero =>
  intro g v hg hv
  rw [Kb9.eq_def]
  simp only
  obtain ⟨b,hb⟩:=hview v hv
  rw [hn,show ((g:Int) == (n:Int))=true by rw [show g=n by omega]; exact beq_self_eq_true _,if_pos rfl,hb,bs]
  refine .ite (fun _=>?_) (fun _=>.of ⟨by simp,fun q h=>by cases h⟩)
  refine Gv.bind (V18 s hn (by omega) v hv n 0 [] (by omega) (by simp)) (fun l hl=>?_)
  exact .of ⟨by simp,fun q h=>by rw [List.mem_singleton.1 h]; exact hl⟩
 | succ k ih =>
  intro g v hg hv
  rw [Kb9.eq_def]
  simp only
  have hp:2 ^ k ≤ 1024:=by
   have:2 ^ k ≤ 2 ^ 10:=Nat.pow_le_pow_right (by decide) (by omega)
   simpa using this
  rw [hn,show ((g:Int) == (n:Int))=false by rw [beq_eq_false_iff_ne]; omega,if_neg (by decide),Kba.eq_def]
  simp only
  rw [decide_eq_true (by decide:(0:Int) < 2),if_pos rfl,Kps (by simp; omega),bs,Kmn (by omega),bs,Kmo (by omega),Int.toNat_natCast]
  refine Gv.bind (Q:=fun r:List (List Int)=>r.length ≤ 2 ^ (k + 1)∧∀ q ∈ r,q.length ≤ n) ?_ (fun r hr=>.of hr)
  refine Gv.bind (ih (g + 1) _ (by omega) (by rw [List.length_set]; exact hv)) ?_
  rintro r0 ⟨a0,b0⟩
  rw [Kps (by simp; omega),bs,List.nil_append,show wr ((0:Int) + 1)=1 from rfl,Kba.eq_def]
  simp only
  rw [decide_eq_true (by decide:(1:Int) < 2),if_pos rfl,Kps (by simp; omega),bs,Kmn (by omega),bs,Kmo (by omega),Int.toNat_natCast]
  refine Gv.bind (ih (g + 1) _ (by omega) (by rw [List.length_set]; exact hv)) ?_
  rintro r1 ⟨a1,b1⟩
  rw [Kps (by omega),bs,show wr ((1:Int) + 1)=2 from rfl,Kba.eq_def]
  simp only
  rw [decide_eq_false (by decide:¬ (2:Int) < 2),if_neg (by decide)]
  refine .of ⟨by rw [List.length_append,Nat.pow_succ]; omega,fun q h=>?_⟩
  rcases List.mem_append.1 h with h | h
  ·exact b0 q h
  ·exact b1 q h
theorem V1e {s:K00} (hsy:s ∈ V0r) {c:K01} (h:Kyf c):Gv (Kck (c,s)) (fun r=>r.1.length ≤ 1000∧Kyf r.2):=by
 obtain ⟨sy,⟨z1,z2⟩,_⟩:=V0s hsy
 have hs:=Kub sy
 have hn:s.fSize=((s.fSize.toNat:Nat):Int):=by omega
 unfold Kck
 have hv:Gv (Kbv s) (fun r=>∀ q ∈ r,q.length ≤ s.fSize.toNat):=by
  unfold Kbv
  rw [Kq8,sy,bs,if_pos rfl]
  have ck:chk (0 ≤ s.fSize∧(Int.toNat s.fSize) * 1 ≤ 140737488355328)=some ():=by unfold chk; rw [if_pos (by omega)]
  rw [ck,bs,show (1:Int)=((1:Nat):Int) from rfl,Kmn (by rw [List.length_replicate]; omega),bs]
  refine Gv.bind (V1d s hn (by omega) (fun v hv=>⟨_,Ksc hs.tab hv⟩) (s.fSize.toNat - 2) 2 _ (by omega) (by rw [List.length_set,List.length_replicate])) ?_
  rintro R ⟨a1,a2⟩
  have hp:2 ^ (s.fSize.toNat - 2) ≤ 2 ^ 10:=Nat.pow_le_pow_right (by decide) (by omega)
  refine Gv.bind (V1c R (b:=s.fSize.toNat) (by omega) a2 (by omega) R.length 0 [] (by omega) rfl (fun q h=>by cases h)) (fun r hr=>.of hr)
 refine Gv.bind hv (fun R hR=>?_)
 refine Gv.bind (Q:=fun r:List Int × Int × Int × Bool=>Kyf ⟨r.1,r.2.1,r.2.2.1⟩∧(r.2.2.2=false→0 < R.length)) (.ite (fun _=>.of ⟨h,fun q=>by cases q⟩) (fun hb=>?_)) ?_
 ·have hb:=beq_eq_false_iff_ne.1 hb
  refine Gv.bind (Kyn h 12) ?_
  rintro ⟨x,c1⟩ h1
  exact .of ⟨h1,fun _=>by omega⟩
 rintro ⟨b1,f1,g1,v⟩ ⟨h1,hq⟩
 simp only at h1 hq ⊢
 cases v
 ·have hl:=hq rfl
  rw [if_neg (by decide)]
  refine Gv.bind (Kym h1 _) ?_
  rintro ⟨x,c2⟩ ⟨⟨hx,_⟩,h2⟩
  simp only at hx h2 ⊢
  obtain ⟨hx0,hx1⟩:=hx (by omega)
  obtain ⟨m,rfl⟩:=Int.eq_ofNat_of_zero_le hx0
  have hm:m < R.length:=by omega
  have:=hR _ (List.getElem_mem hm)
  rw [Kmn hm,bs,Kpu _ (by omega),bs]
  exact .of ⟨by simp only; omega,h2⟩
 ·rw [if_pos rfl]
  refine Gv.bind (Kym h1 3) ?_
  rintro ⟨x,c2⟩ ⟨⟨hx,_⟩,h2⟩
  simp only at hx h2 ⊢
  obtain ⟨hx0,hx1⟩:=hx (by decide)
  obtain ⟨m,rfl⟩:=Int.eq_ofNat_of_zero_le hx0
  refine Gv.bind (V17 h2 m (by omega)) ?_
  rintro ⟨gs,c3⟩ ⟨q1,q2⟩
  exact .of ⟨by simp only at q1 ⊢; omega,q2⟩
mutual
theorem V1f:∀ (a b:K02),tms a ≤ 1099511627776→tms b ≤ 1099511627776→Kkh (a,b)=some (tEq a b)
 | ⟨o,N,t,k⟩,⟨o',N',t',k'⟩,ha,hb=>by
  rw [tms] at ha hb
  rw [Kkh.eq_def,tEq]
  simp only
  rw [Ksw t t' (by omega)]
  have hk:Kki (k,k')=some (k.length == k'.length && Ku0 k k'):=by
   rw [Kki.eq_def]
   simp only
   by_cases h4:k.length=k'.length
   ·have hl:=V1g k k' k k' 0 rfl rfl h4 (by omega) (by omega) (by omega)
    rw [show ((0:Nat):Int)=0 from rfl] at hl
    rw [show ((k.length:Int) != (k'.length:Int))=false by rw [h4]; exact Kmr,if_neg (by decide),hl,bs,beq_iff_eq.2 h4]
    cases Ku0 k k' <;> rfl
   ·rw [bne_iff_ne.2 (by omega),if_pos rfl,beq_eq_false_iff_ne.2 h4]; rfl
  rw [hk]
  cases o == o' <;> cases N == N' <;> cases t == t' <;> rfl
theorem V1g:∀ (ks js a b:List K02) (i:Nat),a.drop i=ks→b.drop i=js→ks.length=js.length→a.length ≤ 1099511627776→Koo ks ≤ 1099511627776→Koo js ≤ 1099511627776→Kkj (a,b,(i:Int))=some (if Ku0 ks js then .inl () else .inr false)
 | [],js,a,b,i,h1,h2,hl,hk,m1,m2=>by
  rw [Kkj.eq_def,Ku0]
  simp only
  rw [Kmq (Knt h1)]; rfl
 | x :: ks,[],a,b,i,h1,h2,hl,hk,m1,m2=>by simp at hl
 | x :: ks,y :: js,a,b,i,h1,h2,hl,hk,m1,m2=>by
  obtain ⟨hi,hx,hd⟩:=Kns h1
  obtain ⟨_,hy,hd2⟩:=Kns h2
  rw [Koo] at m1 m2
  rw [Kkj.eq_def,Ku0]
  simp only
  rw [Kmp hi,if_pos rfl,hx,bs,hy,bs,V1f x y (by omega) (by omega),bs,Kmo (by omega),V1g ks js a b (i + 1) hd hd2 (by simpa using hl) hk (by omega) (by omega)]
  cases tEq x y <;> rfl
end
def p1 (op N:Int):Int:=if op == 12 then 1 else if Kox op then -1 else N
def p2 (op N:Int):Int:=if Kox op then 1 else N
theorem hp1 (op N:Int):(Kox op=true→gN 16 false (p1 op N)=true)∧(Kox op=false→p1 op N=N):=by
 unfold p1
 refine ⟨fun h=>?_,fun h=>?_⟩
 ·rw [h]
  split
  ·decide
  ·rw [if_pos rfl]; decide
 ·rw [h]
  by_cases e:op=12
  ·subst e; cases h
  ·rw [if_neg (by simp [e])]; rfl
inductive Cl:Ty→K02→Prop where
 | num (N:Int) (h:0 ≤ N∧N ≤ 2):Cl .num ⟨1,N,[],[]⟩
 | pair {a b:Ty} {k m:K02} (h1:Cl a k) (h2:Cl b m):Cl (.bin 1 a b) ⟨4,0,[],[k,m]⟩
 | left {a b:Ty} {k:K02} (h1:Cl a k):Cl (.bin 2 a b) ⟨6,0,b.code,[k]⟩
 | right {a b:Ty} {k:K02} (h1:Cl b k):Cl (.bin 2 a b) ⟨7,0,a.code,[k]⟩
 | fn {c:Int} {a b:Ty} {k:K02} (hc:Knu c=true) (h1:Cl b k):Cl (.bin c a b) ⟨9,Koh c,a.code,[k]⟩
 | box {c:Int} {a:Ty} {k:K02} (hc:Knv c=true) (h1:Cl a k):Cl (.un c a) ⟨11,Koh c,[],[k]⟩
theorem V1h (T:Ty):∀ v,T.ok→T.dat→vB T v=true→Cl T v:=by
 induction T with
 | num =>
  intro v _ _ h
  obtain ⟨N,rfl,hN⟩:=Ktn h
  exact .num N hN
 | bin c a b iha ihb =>
  intro v ho hd h
  rcases Krw ho.1 with ⟨rfl,_⟩ | ⟨rfl,_⟩ | ⟨h0,_,h2,_⟩
  ·obtain ⟨k,m,rfl,q1,q2⟩:=Kto h
   exact .pair (iha k ho.2.1 hd.2.1 q1) (ihb m ho.2.2 hd.2.2 q2)
  ·rcases Ktp h with ⟨k,rfl,q⟩ | ⟨k,rfl,q⟩
   ·exact .left (iha k ho.2.1 hd.2.1 q)
   ·exact .right (ihb k ho.2.2 hd.2.2 q)
  ·exfalso
   have:=hd.1
   omega
 | un c a ih =>
  intro v ho hd h
  obtain ⟨k,rfl,q⟩:=Ktq h
  exact .box (Krx ho.1).2.1 (ih k ho.2 hd q)
theorem V1i {P:Int→Prop} {g:Int→Bool} {y:List Int→Bool} (hg:∀ c,P c→Knw c > 0→c > 2→g (Koh c)=true) (hy:∀ U:Ty,U.ok→U.code.length ≤ 40→(∀ c ∈ U.code,P c)→y U.code=true) {T:Ty} {v:K02} (h:Cl T v) :
  T.ok→T.code.length ≤ 40→(∀ c ∈ T.code,P c)→(∀ m:Nat,tOk g y m v=true)∧tsz v ≤ T.code.length:=by
 induction h with
 | num N hN =>
  intro _ _ _
  refine ⟨fun m=>?_,by simp [tsz,Kon,Ty.code]⟩
  rw [Kpe]
  simp [Kpd,Kpc,Kpa,Kpb,inB,Kow,Kox,Koy,hN.1,hN.2]
 | @pair a b k m h1 h2 ih1 ih2 =>
  intro ho hl hp
  rw [Ty.code,List.length_cons,List.length_append] at hl ⊢
  rw [Ty.code] at hp
  obtain ⟨a1,a2⟩:=ih1 ho.2.1 (by omega) (fun c hc=>hp c (by simp [hc]))
  obtain ⟨b1,b2⟩:=ih2 ho.2.2 (by omega) (fun c hc=>hp c (by simp [hc]))
  refine ⟨fun m=>?_,by simp only [tsz,Kon]; omega⟩
  rw [Kpe]
  simp [Kpd,a1,b1,Kpc,Kpa,Kpb,inB,Kow,Kox,Koy]
 | @left a b k h1 ih1 =>
  intro ho hl hp
  rw [Ty.code,List.length_cons,List.length_append] at hl ⊢
  rw [Ty.code] at hp
  obtain ⟨a1,a2⟩:=ih1 ho.2.1 (by omega) (fun c hc=>hp c (by simp [hc]))
  have yb:=hy b ho.2.2 (by omega) (fun c hc=>hp c (by simp [hc]))
  refine ⟨fun m=>?_,by simp only [tsz,Kon]; omega⟩
  rw [Kpe]
  simp [Kpd,a1,yb,Kpc,Kpa,Kpb,inB,Kow,Kox,Koy]
 | @right a b k h1 ih1 =>
  intro ho hl hp
  rw [Ty.code,List.length_cons,List.length_append] at hl ⊢
  rw [Ty.code] at hp
  obtain ⟨a1,a2⟩:=ih1 ho.2.2 (by omega) (fun c hc=>hp c (by simp [hc]))
  have yb:=hy a ho.2.1 (by omega) (fun c hc=>hp c (by simp [hc]))
  refine ⟨fun m=>?_,by simp only [tsz,Kon]; omega⟩
  rw [Kpe]
  simp [Kpd,a1,yb,Kpc,Kpa,Kpb,inB,Kow,Kox,Koy]
 | @fn c a b k hcc h1 ih1 =>
  intro ho hl hp
  rw [Ty.code,List.length_cons,List.length_append] at hl ⊢
  rw [Ty.code] at hp
  obtain ⟨a1,a2⟩:=ih1 ho.2.2 (by omega) (fun c hc=>hp c (by simp [hc]))
  have yb:=hy a ho.2.1 (by omega) (fun c hc=>hp c (by simp [hc]))
  have gg:=hg c (hp c (by simp)) (by rw [ho.1]; decide) (by unfold Knu inB at hcc; simp at hcc; omega)
  refine ⟨fun m=>?_,by simp only [tsz,Kon]; omega⟩
  rw [Kpe]
  simp [Kpd,a1,yb,gg,Kpc,Kpa,Kpb,inB,Kow,Kox,Koy]
 | @box c a k hcc h1 ih1 =>
  intro ho hl hp
  rw [Ty.code,List.length_cons] at hl ⊢
  rw [Ty.code] at hp
  obtain ⟨a1,a2⟩:=ih1 ho.2 (by omega) (fun c hc=>hp c (by simp [hc]))
  have gg:=hg c (hp c (by simp)) (by rw [ho.1]; decide) (by unfold Knv inB at hcc; simp at hcc; omega)
  refine ⟨fun m=>?_,by simp only [tsz,Kon]; omega⟩
  rw [Kpe]
  simp [Kpd,a1,gg,Kpc,Kpa,Kpb,inB,Kow,Kox,Koy]
theorem V1j {size c:Int} (h:Koi size true c=true) (h1:Knw c > 0) (h2:c > 2):gN size true (Koh c)=true:=by
 unfold Koi at h
 unfold gN
 simp [h1,h2] at h ⊢
 omega
theorem V1k {size c:Int} (hs:size ≤ 16) (h:Koi size true c=true) (h1:Knw c > 0) (h2:c > 2):gN 16 false (Koh c)=true:=by
 unfold Koi at h
 unfold gN
 simp [h1,h2] at h ⊢
 omega
theorem V1l {s:K00} (hsz:s.fSize ≤ 16) {T:Ty} {v:K02} (h:Cl T v) (ho:T.ok) (hl:T.code.length ≤ 40) (hg:T.code.all (Koi s.fSize true)=true) :
  (∀ m:Nat,tOk (gN s.fSize true) (yN s.fSize true) m v=true)∧wB v=true∧tsz v ≤ 40:=by
 rw [List.all_eq_true] at hg
 obtain ⟨q1,q2⟩:=V1i (P:=fun c=>Koi s.fSize true c=true) (g:=gN s.fSize true) (y:=yN s.fSize true) (fun c h h1 h2=>V1j h h1 h2) (fun U u1 u2 u3=>by
  unfold yN
  rw [Kqi u1 u2,List.all_eq_true.2 u3]; rfl) h ho hl hg
 obtain ⟨r1,_⟩:=V1i (P:=fun c=>Koi s.fSize true c=true) (g:=gN 16 false) (y:=wtB) (fun c h h1 h2=>V1k hsz h h1 h2) (fun U u1 u2 u3=>Kqi u1 u2) h ho hl hg
 refine ⟨q1,?_,by omega⟩
 unfold wB
 rw [r1 8,decide_eq_true (by omega)]; rfl
theorem V1m {s:K00} {T:Ty} (h:Kr8 s T.code=true):Kq6 s=true∧T.code.all (Koi s.fSize true)=true:=by
 unfold Kr8 at h
 rw [Bool.and_eq_true] at h
 refine ⟨h.1,?_⟩
 have h2:=h.2
 rw [Kr7 (Kq7 h.1)] at h2
 unfold yN at h2
 rw [Bool.and_eq_true] at h2
 exact h2.2
theorem V1n (T:Ty):T.ok→T.dat→vB T (dfl T)=true:=by
 induction T with
 | num=>intro _ _; rfl
 | bin c a b iha ihb =>
  intro ho hd
  rw [dfl]
  rcases hd.1 with rfl | rfl
  ·rw [if_pos rfl,Ksy,if_pos rfl]
   simp [iha ho.2.1 hd.2.1,ihb ho.2.2 hd.2.2]
  ·rw [if_neg (by decide),if_pos rfl,Ksy,if_neg (by decide)]
   simp [iha ho.2.1 hd.2.1]
 | un c a ih =>
  intro ho hd
  rw [dfl,Ksz]
  simp [ih ho.2 hd]
theorem V1o (T:Ty):T.ok→T.dat→dfl T=vAt T 0:=by
 induction T with
 | num=>intro _ _; rfl
 | bin c a b iha ihb =>
  intro ho hd
  rw [dfl,vAt]
  rcases hd.1 with rfl | rfl
  ·rw [if_pos rfl,if_pos rfl,iha ho.2.1 hd.2.1,ihb ho.2.2 hd.2.2,Int.zero_tdiv,Int.zero_tmod]
   rfl
  ·have:=(Kre a).1
   rw [if_neg (by decide),if_pos rfl,if_neg (by decide),if_pos (by omega),iha ho.2.1 hd.2.1]
 | un c a ih =>
  intro ho hd
  rw [dfl,vAt,ih ho.2 hd]
theorem V1p (T:Ty):∀ k:Nat,T.ok→T.dat→Krd T ≤ 300→k < Krd T→vB T (vAt T k)=true:=by
 induction T with
 | num =>
  intro k _ _ _ hk
  rw [Krd] at hk
  rw [vAt,Ksx]
  simp [inB]
  omega
 | bin c a b iha ihb =>
  intro k ho hd hc hk
  rw [vAt]
  rcases hd.1 with rfl | rfl
  ·obtain ⟨e,ca,cb⟩:=Kts hc
   rw [e] at hk
   have hb:=(Kre b).1
   have d1:k / Krd b < Krd a:=Nat.div_lt_of_lt_mul (by rw [Nat.mul_comm]; exact hk)
   have d2:k % Krd b < Krd b:=Nat.mod_lt _ (by omega)
   have w:wr (Int.tdiv (k:Int) (Krd b:Int))=((k / Krd b:Nat):Int):=by
    rw [Kzg]
    generalize k / Krd b=q at *
    rw [Kmm (by omega) (by omega)]
   have q1:=iha _ ho.2.1 hd.2.1 ca d1
   have q2:=ihb _ ho.2.2 hd.2.2 cb d2
   rw [if_pos rfl,w,Kz7,Ksy,if_pos rfl]
   simp only [q1,q2]
   rfl
  ·obtain ⟨e,ca,cb⟩:=Ktt (by decide) hc
   rw [e] at hk
   rw [if_neg (by decide)]
   by_cases q:k < Krd a
   ·rw [if_pos (by omega),Ksy,if_neg (by decide)]
    simp [iha k ho.2.1 hd.2.1 ca q]
   ·have w:wr ((k:Int) - (Krd a:Int))=((k - Krd a:Nat):Int):=by rw [Kmm (by omega) (by omega)]; omega
    rw [if_neg (by omega),w,Ksy,if_neg (by decide)]
    simp [ihb (k - Krd a) ho.2.2 hd.2.2 cb (by omega)]
 | un c a ih =>
  intro k ho hd hc hk
  rw [Krd] at hk hc
  rw [vAt,Ksz]
  simp [ih k ho.2 hd hc hk]
theorem V1q {s:K00} {T:Ty} (h:(Kr8 s T.code && Kqs T.code)=true) (h1:T.ok) (h2:T.dat) (h4:T.code.length ≤ 40) (k:Int):Kg1 (s,T.code)=some (if Krd T > 300 then -1 else (Krd T:Int))∧Ki6 (s,T.code)=some (if Krd T > 300 then -1 else (Krd T:Int)) ∧
  Kis (s,T.code,k)=some (if inB k 0 (wr ((if Krd T > 300 then -1 else (Krd T:Int)) - 1))=true then (vAt T k,true) else (⟨0,0,[],[]⟩,false)):=by
 have hcv:Kg1 (s,T.code)=some (if Krd T > 300 then -1 else (Krd T:Int))∧Ki6 (s,T.code)=some (if Krd T > 300 then -1 else (Krd T:Int)):=by
  unfold Kg1 Ki6
  simp only
  rw [Krc s T.code (by omega),Kra s T.code (by omega),h,bs,bs,if_pos rfl,if_pos rfl,Krm T h1 h2 (by omega),Krl T h1 h2 (by omega),bs,bs,bs]
  by_cases q:Krd T > 300
  ·rw [decide_eq_true (by omega),if_pos rfl,if_pos q]; exact ⟨rfl,rfl⟩
  ·rw [decide_eq_false (by omega),if_neg (by decide:¬ false=true),if_neg q]; exact ⟨rfl,rfl⟩
 refine ⟨hcv.1,hcv.2,?_⟩
 unfold Kis
 simp only
 rw [hcv.1,bs,iIn,bs]
 cases inB k 0 (wr ((if Krd T > 300 then -1 else (Krd T:Int)) - 1)) with
 | false=>rfl
 | true=>rw [if_pos rfl,if_pos rfl,Ks5 T h1 h2 (by omega)]; rfl
structure Sm (u:K02):Prop where
 shf:∀ b f:Int,shf b f u=u
 put:∀ (v:K02) (d:Int),put v d u=u
 ok:∀ m:Nat,tOk (gN 16 false) wtB m u=true
 sz:tsz u ≤ 3
 ms:tms u ≤ 10
theorem Sm.wB {u:K02} (h:Sm u):wB u=true:=by
 unfold Am.wB
 rw [h.ok 8,decide_eq_true (by have:=h.sz; omega)]; rfl
theorem V1r (p:Nat→Bool) (a b:Nat):(List.range (a + b)).countP p=(List.range a).countP p + (List.range b).countP (fun j=>p (a + j)):=by
 rw [List.range_add,List.countP_append,List.countP_map]
 rfl
theorem V1s (p q:Nat→Bool) (b:Nat) (hb:0 < b):∀ a:Nat,(List.range (a * b)).countP (fun k=>p (k / b) && q (k % b))=(List.range a).countP p * (List.range b).countP q
 | 0=>by simp
 | a + 1=>by
  rw [Nat.add_mul,Nat.one_mul,V1r,V1s p q b hb a,List.range_succ,List.countP_append,Nat.add_mul]
  congr 1
  have e:∀ j ∈ List.range b,(p ((a * b + j) / b) && q ((a * b + j) % b))=(p a && q j):=fun j hj=>by
   have hj:=List.mem_range.1 hj
   rw [show a * b + j=j + b * a by rw [Nat.mul_comm]; omega,Nat.add_mul_div_left _ _ hb,Nat.add_mul_mod_self_left,Nat.div_eq_of_lt hj,Nat.mod_eq_of_lt hj,Nat.zero_add]
  rw [List.countP_congr (fun j hj=>by rw [e j hj])]
  cases hp:p a
  ·simp [hp]
  ·simp [hp]
def fxV (view:List Int) (T:Ty) (v:K02):Bool:=tEq (Ktv view T v) v
theorem V1t (view:List Int) (a b:Ty) (x y:K02):fxV view (.bin 1 a b) ⟨4,0,[],[x,y]⟩=(fxV view a x && fxV view b y):=by
 unfold fxV
 rw [Ktv,if_pos rfl]
 simp [Ktr,tEq,Ku0]
theorem V1u (view:List Int) (a b:Ty) (x:K02):fxV view (.bin 2 a b) ⟨6,0,b.code,[x]⟩=fxV view a x:=by
 unfold fxV
 rw [Ktv,if_neg (by decide)]
 simp [Ktr,tEq,Ku0]
theorem V1v (view:List Int) (a b:Ty) (x:K02):fxV view (.bin 2 a b) ⟨7,0,a.code,[x]⟩=fxV view b x:=by
 unfold fxV
 rw [Ktv,if_neg (by decide)]
 simp [Ktr,tEq,Ku0]
theorem V1w (view:List Int) (c:Int) (a:Ty) (x:K02):fxV view (.un c a) ⟨11,Koh c,[],[x]⟩=if view.contains (Koh c) then fxV view a x else tEq (dfl a) x:=by
 unfold fxV
 rw [Ktv]
 cases view.contains (Koh c) <;> simp [Ktr,tEq,Ku0]
theorem V1x (view:List Int) (T:Ty):T.ok→T.dat→Krd T ≤ 300→∃ m:Nat,Kso view T=(m:Int)∧(List.range (Krd T)).countP (fun k:Nat=>fxV view T (vAt T (k:Int)))=m∧m ≤ Krd T:=by
 induction T with
 | num =>
  intro _ _ _
  refine ⟨3,rfl,?_,by decide⟩
  have:∀ k:Nat,fxV view .num (vAt .num (k:Int))=true:=fun k=>by unfold fxV; rw [vAt,Ktv]; exact Ku3 _
  simp [this,Krd]
 | bin c a b iha ihb =>
  intro ho hd hc
  rcases hd.1 with rfl | rfl
  ·obtain ⟨e,ca,cb⟩:=Kts hc
   obtain ⟨m1,s1,r1,l1⟩:=iha ho.2.1 hd.2.1 ca
   obtain ⟨m2,s2,r2,l2⟩:=ihb ho.2.2 hd.2.2 cb
   have hb:=(Kre b).1
   have hm:m1 * m2 ≤ Krd a * Krd b:=Nat.mul_le_mul l1 l2
   refine ⟨m1 * m2,?_,?_,by omega⟩
   ·rw [Kso,if_pos rfl,s1,s2,← Int.natCast_mul,Kmm (by omega) (by omega)]
   ·rw [e,← r1,← r2,← V1s (fun k:Nat=>fxV view a (vAt a (k:Int))) (fun k:Nat=>fxV view b (vAt b (k:Int))) (Krd b) hb]
    refine List.countP_congr (fun k hk=>?_)
    have hk:=List.mem_range.1 hk
    have d1:k / Krd b < Krd a:=Nat.div_lt_of_lt_mul (by rw [Nat.mul_comm]; exact hk)
    have w:wr (Int.tdiv (k:Int) (Krd b:Int))=((k / Krd b:Nat):Int):=by
     rw [Kzg]
     generalize k / Krd b=q at *
     rw [Kmm (by omega) (by omega)]
    rw [vAt,if_pos rfl,w,Kz7,V1t]
  ·obtain ⟨e,ca,cb⟩:=Ktt (by decide) hc
   obtain ⟨m1,s1,r1,l1⟩:=iha ho.2.1 hd.2.1 ca
   obtain ⟨m2,s2,r2,l2⟩:=ihb ho.2.2 hd.2.2 cb
   refine ⟨m1 + m2,?_,?_,by omega⟩
   ·rw [Kso,if_neg (by decide),s1,s2,← Int.natCast_add,Kmm (by omega) (by omega)]
   ·rw [e,V1r,← r1,← r2]
    congr 1
    ·refine List.countP_congr (fun k hk=>?_)
     have hk:=List.mem_range.1 hk
     rw [vAt,if_neg (by decide),if_pos (by omega),V1u]
    ·refine List.countP_congr (fun k hk=>?_)
     have hk:=List.mem_range.1 hk
     have w:wr (((Krd a + k:Nat):Int) - (Krd a:Int))=(k:Int):=by rw [Kmm (by omega) (by omega)]; omega
     rw [vAt,if_neg (by decide),if_neg (by omega),w,V1v]
 | un c a ih =>
  intro ho hd hc
  rw [Krd] at hc ⊢
  obtain ⟨m,s1,r1,l1⟩:=ih ho.2 hd hc
  cases hv:view.contains (Koh c)
  ·refine ⟨1,by rw [Kso,hv]; rfl,?_,(Kre a).1⟩
   have h1:=(Kre a).1
   have hz:∀ k ∈ List.range (Krd a),fxV view (.un c a) (vAt (.un c a) (k:Int))=true ↔ (k == 0)=true:=fun k hk=>by
    have hk:=List.mem_range.1 hk
    rw [vAt,V1w,hv,if_neg (by decide),V1o a ho.2 hd]
    constructor
    ·intro h
     have h2:=Ku1 _ _ h
     have p0:=Ktu a 0 hd hc h1
     have pk:=Ktu a k hd hc hk
     rw [show ((0:Nat):Int)=0 from rfl] at p0
     rw [← h2,p0] at pk
     rw [← pk]; rfl
    ·intro h
     have:=eq_of_beq h
     subst this
     exact Ku3 _
   rw [List.countP_congr hz]
   obtain ⟨q,hq⟩:∃ q,Krd a=q + 1:=⟨Krd a - 1,by omega⟩
   rw [hq,List.range_succ_eq_map,List.countP_cons,List.countP_map]
   simp
  ·refine ⟨m,by rw [Kso,hv,if_pos rfl,s1],?_,l1⟩
   rw [← r1]
   refine List.countP_congr (fun k hk=>?_)
   rw [vAt,V1w,hv,if_pos rfl]
theorem V1y (view:List Int) (T:Ty):∀ v,T.ok→T.dat→vB T v=true→vB T (Ktv view T v)=true:=by
 induction T with
 | num=>intro v _ _ h; exact h
 | bin c a b iha ihb =>
  intro v ho hd h
  rcases hd.1 with rfl | rfl
  ·obtain ⟨k,m,rfl,h1,h2⟩:=Kto h
   rw [Ktv,if_pos rfl,Ksy,if_pos rfl]
   simp [Ktr,iha k ho.2.1 hd.2.1 h1,ihb m ho.2.2 hd.2.2 h2]
  ·rcases Ktp h with ⟨k,rfl,h1⟩ | ⟨k,rfl,h1⟩
   ·rw [Ktv,if_neg (by decide),if_pos rfl,Ksy,if_neg (by decide)]
    simp [Ktr,iha k ho.2.1 hd.2.1 h1]
   ·rw [Ktv,if_neg (by decide),if_neg (by simp),Ksy,if_neg (by decide)]
    simp [Ktr,ihb k ho.2.2 hd.2.2 h1]
 | un c a ih =>
  intro v ho hd h
  obtain ⟨k,rfl,h1⟩:=Ktq h
  rw [Ktv,Ksz]
  cases view.contains (Koh c)
  ·simp [V1n a ho.2 hd]
  ·simp [Ktr,ih k ho.2 hd h1]
theorem V1z {s:K00} {view:List Int} {T:Ty} {v:K02} (hview:vwB s view=true) (hvl:view.length ≤ 1048576) (h:(Kr8 s T.code && Kqs T.code)=true) (h1:T.ok) (h2:T.dat) (h4:T.code.length ≤ 40) (hv:tms v ≤ 1048576) (q:vB T v=true):Kjq (s,view,T.code,v)=some (Ktv view T v,true):=by
 unfold Kjq
 simp only
 rw [iVw s view (by omega),hview]
 obtain ⟨x1,x2⟩:=Kty v h h1 h2 h4 hv
 have e2:=Ktz view (by omega) T v h1 h2 (by omega) hv q
 rw [x2,q]
 simp only [bs,if_true,e2,Bool.not_true,Bool.false_eq_true,if_false]
theorem V20 {s:K00} {view:List Int} {T:Ty} (hview:vwB s view=true) (hvl:view.length ≤ 1048576) (h:(Kr8 s T.code && Kqs T.code)=true) (h1:T.ok) (h2:T.dat) (h4:T.code.length ≤ 40) (hc:Krd T ≤ 300) (n0:Int):∀ (j k kept:Nat),k + j=Krd T→kept ≤ k →
  Kkv (s,view,T.code,n0,(kept:Int),(k:Int))=some (.inl ((kept + (List.range' k j).countP (fun k:Nat=>fxV view T (vAt T (k:Int))):Nat):Int)):=by
 obtain ⟨c1,_,_⟩:=V1q h h1 h2 h4 0
 rw [if_neg (show ¬ Krd T > 300 by omega)] at c1
 have hty:Kr8 s T.code=true:=by rw [Bool.and_eq_true] at h; exact h.1
 obtain ⟨sy,hg⟩:=V1m hty
 have hsz:s.fSize ≤ 16:=by have:=(Kq7 sy).hi; have:=(Kq7 sy).size; omega
 intro j
 induction j with
 | zero =>
  intro k kept hk hkk
  rw [Kkv.eq_def]
  simp only
  rw [c1,bs,Kmq (by omega),if_neg (by decide)]
  simp
 | succ j ih =>
  intro k kept hk hkk
  have hv:=V1p T k h1 h2 hc (by omega)
  have hin:inB (k:Int) 0 ((Krd T:Int) - 1)=true:=by unfold inB; simp; omega
  obtain ⟨_,_,v1⟩:=V1q h h1 h2 h4 (k:Int)
  rw [if_neg (show ¬ Krd T > 300 by omega),Kmm (by omega) (by omega),hin,if_pos rfl] at v1
  have cl1:=V1h T _ h1 h2 hv
  have cl2:=V1h T _ h1 h2 (V1y view T _ h1 h2 hv)
  obtain ⟨_,w1,_⟩:=V1l hsz cl1 h1 h4 hg
  obtain ⟨_,w2,_⟩:=V1l hsz cl2 h1 h4 hg
  have m1:=Ks3 T (k:Int)
  have m2:=Ktw view T _ hv
  have hsame:Kkr (Ktv view T (vAt T (k:Int)),vAt T (k:Int))=some (fxV view T (vAt T (k:Int))):=by
   unfold Kkr
   simp only
   rw [Kpm _ (by omega),w2,bs,if_pos rfl,Kpm _ (by omega),w1,bs,if_pos rfl,V1f _ _ (by omega) (by omega)]
   rfl
  rw [Kkv.eq_def]
  simp only
  rw [c1,bs,Kmp (by omega),if_pos rfl,v1,bs]
  simp only
  rw [V1z hview hvl h h1 h2 h4 (by omega) hv,bs]
  simp only [if_true]
  rw [hsame,bs,List.range'_succ,List.countP_cons,Kmo (n:=k) (by omega)]
  cases hf:fxV view T (vAt T (k:Int))
  ·rw [if_neg (by decide),bs,ih (k + 1) kept (by omega) (by omega)]
   simp
  ·rw [if_pos rfl,bs,Kmo (n:=kept) (by omega),ih (k + 1) (kept + 1) (by omega) (by omega)]
   simp only [if_true]
   congr 3
   omega
theorem V21 (code:List Int) (w:code.length ≤ maxLen∧∀ v ∈ code,0 ≤ v∧v ≤ 255):Kky code=some true:=by
 by_cases hbig:(code.length:Int) > 1048576
 ·unfold Kky K6p
  rw [bs,decide_eq_true hbig,if_pos rfl]
 have e1:K6p code=some false:=by unfold K6p; rw [decide_eq_false hbig]
 have G:Gv (Kcn code) (fun r=>sms r.1 ≤ 300∧r.2.1.length ≤ 1000∧r.2.2.length ≤ 100):=by
  unfold Kcn
  refine Gv.bind (Kyj code (by omega) w.2) (fun c0 h0=>?_)
  refine Gv.bind (V0x h0) ?_
  rintro ⟨s,c1⟩ ⟨hsy,h1⟩
  simp only at hsy h1 ⊢
  refine Gv.bind (Kym h1 8) ?_
  rintro ⟨x,c2⟩ ⟨_,h2⟩
  simp only at h2 ⊢
  refine Gv.bind (V11 3 c2 _ (by decide) h2) ?_
  rintro ⟨ty,c3⟩ ⟨⟨_,ht⟩,h3⟩
  simp only at ht h3 ⊢
  refine Gv.bind (V1e hsy h3) ?_
  rintro ⟨vw,c4⟩ ⟨hv,h4⟩
  exact .of ⟨(V0s hsy).2.2,hv,by simp only; omega⟩
 obtain ⟨⟨s,view,ty⟩,e2,q1,q2,q3⟩:=G
 simp only at q1 q2 q3
 obtain ⟨n,f1,f2⟩:=Ksr s view ty (by omega) (by omega) (by omega)
 unfold Kky
 rw [e1,bs,if_neg (by decide),e2,bs]
 simp only
 rw [f2,bs]
 by_cases hn:n < 0
 ·rw [decide_eq_true hn,if_pos rfl,f1,bs,decide_eq_true hn]
 ·rw [decide_eq_false hn,if_neg (by decide)]
  -- the type is a data type,the view a view
  have f2':=f2
  unfold Kgj at f2'
  simp only at f2'
  rw [iVw s view (by omega)] at f2'
  cases hview:vwB s view
  ·rw [hview] at f2'
   have:n=-1:=(Option.some.inj f2').symm
   omega
  ·rw [hview] at f2'
   rcases Kro s ty (by omega) with ⟨T,h1,h2,h3,h4,h5,_,h6⟩ | ⟨_,_,h6⟩
   ·rw [h6] at f2'
    by_cases hc:Krd T > 300
    ·rw [if_pos hc] at f2'
     have:n=-1:=(Option.some.inj f2').symm
     omega
    ·subst h3
     rw [if_neg hc] at f2'
     simp only [bs,if_true] at f2'
     rw [decide_eq_false (by omega),if_neg (by decide),Ksq view (by omega) T h1 h2 (by omega),bs] at f2'
     have hn2:=Option.some.inj f2'
     obtain ⟨m,s1,r1,l1⟩:=V1x view T h1 h2 (by omega)
     have hl:=V20 (s:=s) hview (by omega) h5 h1 h2 h4 (by omega) n (Krd T) 0 0 (by omega) (by omega)
     rw [show ((0:Nat):Int)=0 from rfl] at hl
     rw [hl,bs]
     simp only
     rw [← List.range_eq_range',r1,← hn2,s1,Nat.zero_add]
     simp
   ·rw [h6] at f2'
    have:n=-1:=(Option.some.inj f2').symm
    omega
end Go.Am
