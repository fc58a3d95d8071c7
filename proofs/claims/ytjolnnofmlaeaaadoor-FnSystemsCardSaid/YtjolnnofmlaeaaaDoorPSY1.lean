/- Plain laws of the printed functions. -/
import Derived.Test.YtjolnnofmlaeaaaDoorPSY0
set_option linter.unusedSimpArgs false
set_option linter.unusedVariables false
namespace Go.Am
def Kjw (s:K00) (n sz:Nat):Prop:=∀ (k:Kaw) (c:List (List Int)),Ki5 s c.length k sz→(∀ q ∈ c,TyS s q)→c.length + 2 * tsz k ≤ 1000000→∃ x y,Kjf s n c k x y
theorem Kjx {X:Option Kbl} {q:List Int} {ns:List Nat} {kids:List Kbl} (h:q.length ≤ 40) (im:X=some (if (Kiw q ns kids).1=0 then (⟨(Kiw q ns kids).2.fty,(Kiw q ns kids).2.fneeds,(Kiw q ns kids).2.fkids,0,(Kiw q ns kids).2.fpath⟩:Kbl) else ⟨[],[],[],(Kiw q ns kids).1,[]⟩)):X=some ⟨q,Kge ns,kids,0,[]⟩:=by
 rw [im]
 unfold Kiw
 simp only
 rw [show (if q.length > 40 then (3:Int) else 0)=0 from if_neg (by omega),if_pos rfl]
section
variable {s:K00} {n:Nat} (hs:Kgj s n) {ctx:List (List Int)} {N:Int} {ty:List Int} {ks:List Kaw}
theorem Kjy {op:Int} {k0:Kaw} {l:List Kaw} {x0:Kbk} {y0:Kbl} (h0:op ≠ 0) (h1:op ≠ 1) (h9:op ≠ 9) (hb:ctx.length + 2 * tsz (⟨op,N,ty,k0 :: l⟩:Kaw) ≤ 1000000) (r0:Kjf s n ctx k0 x0 y0) (f0:x0.ffault ≠ 0) :
  ∃ x y,Kjf s n ctx ⟨op,N,ty,k0 :: l⟩ x y:=by
 have hz:tsz k0 + 1 ≤ tsz (⟨op,N,ty,k0 :: l⟩:Kaw):=by rw [tsz,Kei]; omega
 have e0:Kbz (s,ctx,⟨op,N,ty,k0 :: l⟩,0)=some ⟨[],[],x0.ffault,0 :: x0.fpath⟩:=Kjh (i:=0) rfl r0 (by omega) f0
 refine Kjf.bad (f:=x0.ffault) (p:=0 :: x0.fpath) ?_ (Kil (by omega) (Kji (m:=[]) rfl (Kjs h9) r0 (by omega) (by simp; omega) f0)) f0 (by have:=r0.pl; simp; omega)
 rw [Kbx.eq_def]
 simp [h0,h1,h9,e0,f0]
include hs
theorem Kjz {t:Kaw} (ht:t.fOp=0) (h:tOk (gN s.fSize true) (yN s.fSize true) ctx.length t=true) (hc:∀ q ∈ ctx,TyS s q) (hb:ctx.length + 2 * tsz t ≤ 1000000):∃ x y,Kjf s n ctx t x y:=by
 obtain ⟨i,hi,hl,hk⟩:=Ki8 h ht
 obtain ⟨op,N,ty,ks⟩:=t
 simp only at ht hi hk
 subst ht; subst hi; subst hk
 have hq:ctx[i]?=some ctx[i]:=List.getElem?_eq_getElem hl
 have hy:=hc ctx[i] (List.getElem_mem hl)
 have e1:idx ctx (i:Int)=some ctx[i]:=Kcu hl
 have hz:=Khg ctx.length (by omega)
 have e2:idx (Kge (List.replicate ctx.length 0)) (i:Int)=some (((List.replicate ctx.length (0:Nat))[i]'(by simpa using hl):Nat):Int):=by
  rw [Kcu (by rw [Kgf]; simpa using hl)]; simp [Kge]
 have e3:List.set (Kge (List.replicate ctx.length 0)) i 1=Kge ((List.replicate ctx.length 0).set i 1):=by unfold Kge; rw [List.map_set]; rfl
 have hf:=Kj0 (s:=s) (ty:=ty) (ks:=[]) (zs:=List.replicate ctx.length 0) hq (by simpa using hl) (Khs hy)
 have im:=Kim (p0:=⟨s⟩) (t:=⟨0,(i:Int),ty,[]⟩) (by omega) (Kid (Nat.le_refl _)) hf
 refine Kjf.good (q:=ctx[i]) (ns:=(List.replicate ctx.length 0).set i 1) (kids:=[]) ?_ ?_ (by rw [tsz]; omega) hy (by simp) ?_ rfl (fun i k hk=>by simp at hk)
 ·rw [Kbx.eq_def]
  simp [hz,e1,e2,Kf0 ctx[i] (by have:=Khs hy; omega),e3]
 ·exact Kjx (Khs hy) im
 ·intro x hx
  have h1:=Kgl hs
  rcases List.mem_or_eq_of_mem_set hx with h | rfl
  ·rw [List.eq_of_mem_replicate h]; omega
  ·exact h1
theorem Kk0 {t:Kaw} (ht:t.fOp=1) (h:tOk (gN s.fSize true) (yN s.fSize true) ctx.length t=true) (hb:ctx.length + 2 * tsz t ≤ 1000000):∃ x y,Kjf s n ctx t x y:=by
 have hk:=Ki9 h ht
 obtain ⟨op,N,ty,ks⟩:=t
 simp only at ht hk
 subst ht; subst hk
 have hz:=Khg ctx.length (by omega)
 have hf:=Kj1 (s:=s) (N:=N) (ty:=ty) (ks:=[]) (ctx:=ctx) (zs:=List.replicate ctx.length 0)
 have im:=Kim (p0:=⟨s⟩) (t:=⟨1,N,ty,[]⟩) (by omega) (Kid (Nat.le_refl _)) hf
 refine Kjf.good (q:=[0]) (ns:=List.replicate ctx.length 0) (kids:=[]) ?_ ?_ (by rw [tsz]; omega) Khy (by simp) ?_ rfl (fun i k hk=>by simp at hk)
 ·rw [Kbx.eq_def]
  simp [hz]
 ·exact Kjx (by decide) im
 ·intro x hx
  rw [List.eq_of_mem_replicate hx]
  exact Kgm hs
theorem Kk1 {q:List Int} (hq:TyS s q):∃ c r,q=c :: r∧((Ke2 c).1=0 ↔ c=0)∧(c=0→q=[0]):=by
 rcases Ki1 hs hq with rfl | ⟨a,b,rfl,_⟩ | ⟨a,b,rfl,_⟩ | ⟨g,a,b,hg,h15,rfl,_⟩ | ⟨g,a,hg,h15,rfl,_⟩
 ·exact ⟨0,[],rfl,by decide,fun _=>rfl⟩
 ·exact ⟨1,_,rfl,by decide,fun h=>absurd h (by decide)⟩
 ·exact ⟨2,_,rfl,by decide,fun h=>absurd h (by decide)⟩
 ·refine ⟨_,_,rfl,?_,fun h=>by omega⟩
  rcases Ke4 (3 + (g:Int)) with h | h | h | h | h | h | h | h <;> first | omega | (obtain ⟨_,e⟩:=h; rw [e]; simp; omega)
 ·refine ⟨_,_,rfl,?_,fun h=>by omega⟩
  rcases Ke4 (19 + (g:Int)) with h | h | h | h | h | h | h | h <;> first | omega | (obtain ⟨_,e⟩:=h; rw [e]; simp; omega)
theorem Kk2 (ih:Kjw s n (tsz (⟨6,N,ty,ks⟩:Kaw))) (h:tOk (gN s.fSize true) (yN s.fSize true) ctx.length ⟨6,N,ty,ks⟩=true) (hc:∀ q ∈ ctx,TyS s q) (hb:ctx.length + 2 * tsz (⟨6,N,ty,ks⟩:Kaw) ≤ 1000000):∃ x y,Kjf s n ctx ⟨6,N,ty,ks⟩ x y:=by
 obtain ⟨k0,rfl,p0⟩:=nd1 h (Nat.le_refl _) rfl
 have hz:=Kga 6 N ty k0
 have hy:TyS s ty:=Ki7 h rfl
 have ly:=Khs hy
 obtain ⟨x0,y0,r0⟩:=ih k0 ctx p0 hc (by omega)
 by_cases f0:x0.ffault=0
 rotate_left
 ·exact Kjy (by decide) (by decide) (by decide) hb r0 f0
 obtain ⟨g0,q0,a,na,la,ba⟩:=r0.gd f0
 obtain ⟨c0,t0,ht0,hn0,hz0⟩:=Kk1 hs g0
 have L0:=Khs g0
 have e0:Kbz (s,ctx,⟨6,N,ty,[k0]⟩,0)=some x0:=Kjg (i:=0) rfl r0 f0
 have o0:=Kjl (out:=[]) (nd:=[]) (us:=[]) (w:=0) (t:=⟨6,N,ty,[k0]⟩) (m:=[]) rfl (Kjs (by decide)) r0 (by simp; omega) f0 (by rw [ht0]; exact Kip (.inl (by decide))) (Kin (show (6:Int) ≠ 10 by decide)) na (by simp <;> omega) (by simp) (by simp) (by simp) (by simp)
 have hf:=Kj2 (s:=s) (N:=N) (ty:=ty) (ks:=[k0]) (ctx:=ctx) (us:=[Kge []]) (z:=Kge (List.replicate ctx.length 0)) (y0:=y0) (a:=a) (by rw [r0.ty]; omega) (by omega)
 have im:=Kim (p0:=⟨s⟩) (t:=⟨6,N,ty,[k0]⟩) (ctx:=ctx) (by omega) (o0.trans (Kid (Nat.le_refl _))) hf
 rw [r0.ty] at im
 refine Kjf.done (q:=2 :: (x0.fty ++ ty)) (ns:=a) (kids:=[y0]) ?_ im (by omega) (fun hl=>Ki2 hs g0 hy (.inr (.inl rfl)) hl) la ba rfl (kd1 (Kje.mk' (Kjm (by decide) rfl) r0 f0 (fun _ h=>by cases h) rfl))
 have hg:=Khj 2 [x0.fty,ty] (by simp) (by simp; omega)
 simp only [List.flatten_cons,List.flatten_nil,List.append_nil] at hg
 rw [Kbx.eq_def]
 simp [e0,f0,hg,na]
theorem Kk3 (ih:Kjw s n (tsz (⟨7,N,ty,ks⟩:Kaw))) (h:tOk (gN s.fSize true) (yN s.fSize true) ctx.length ⟨7,N,ty,ks⟩=true) (hc:∀ q ∈ ctx,TyS s q) (hb:ctx.length + 2 * tsz (⟨7,N,ty,ks⟩:Kaw) ≤ 1000000):∃ x y,Kjf s n ctx ⟨7,N,ty,ks⟩ x y:=by
 obtain ⟨k0,rfl,p0⟩:=nd1 h (Nat.le_refl _) rfl
 have hz:=Kga 7 N ty k0
 have hy:TyS s ty:=Ki7 h rfl
 have ly:=Khs hy
 obtain ⟨x0,y0,r0⟩:=ih k0 ctx p0 hc (by omega)
 by_cases f0:x0.ffault=0
 rotate_left
 ·exact Kjy (by decide) (by decide) (by decide) hb r0 f0
 obtain ⟨g0,q0,a,na,la,ba⟩:=r0.gd f0
 obtain ⟨c0,t0,ht0,hn0,hz0⟩:=Kk1 hs g0
 have L0:=Khs g0
 have e0:Kbz (s,ctx,⟨7,N,ty,[k0]⟩,0)=some x0:=Kjg (i:=0) rfl r0 f0
 have o0:=Kjl (out:=[]) (nd:=[]) (us:=[]) (w:=0) (t:=⟨7,N,ty,[k0]⟩) (m:=[]) rfl (Kjs (by decide)) r0 (by simp; omega) f0 (by rw [ht0]; exact Kip (.inl (by decide))) (Kin (show (7:Int) ≠ 10 by decide)) na (by simp <;> omega) (by simp) (by simp) (by simp) (by simp)
 have hf:=Kj3 (s:=s) (N:=N) (ty:=ty) (ks:=[k0]) (ctx:=ctx) (us:=[Kge []]) (z:=Kge (List.replicate ctx.length 0)) (y0:=y0) (a:=a) (by rw [r0.ty]; omega) (by omega)
 have im:=Kim (p0:=⟨s⟩) (t:=⟨7,N,ty,[k0]⟩) (ctx:=ctx) (by omega) (o0.trans (Kid (Nat.le_refl _))) hf
 rw [r0.ty] at im
 refine Kjf.done (q:=2 :: (ty ++ x0.fty)) (ns:=a) (kids:=[y0]) ?_ im (by omega) (fun hl=>Ki2 hs hy g0 (.inr (.inl rfl)) hl) la ba rfl (kd1 (Kje.mk' (Kjm (by decide) rfl) r0 f0 (fun _ h=>by cases h) rfl))
 have hg:=Khj 2 [ty,x0.fty] (by simp) (by simp; omega)
 simp only [List.flatten_cons,List.flatten_nil,List.append_nil] at hg
 rw [Kbx.eq_def]
 simp [e0,f0,hg,na]
theorem Kk4 (ih:Kjw s n (tsz (⟨11,N,ty,ks⟩:Kaw))) (h:tOk (gN s.fSize true) (yN s.fSize true) ctx.length ⟨11,N,ty,ks⟩=true) (hc:∀ q ∈ ctx,TyS s q) (hb:ctx.length + 2 * tsz (⟨11,N,ty,ks⟩:Kaw) ≤ 1000000):∃ x y,Kjf s n ctx ⟨11,N,ty,ks⟩ x y:=by
 obtain ⟨k0,rfl,p0⟩:=nd1 h (Nat.le_refl _) rfl
 have hz:=Kga 11 N ty k0
 obtain ⟨g,hN,hg'⟩:=Ki4 hs (Ki6 h rfl)
 simp only at hN
 subst hN
 obtain ⟨x0,y0,r0⟩:=ih k0 ctx p0 hc (by omega)
 by_cases f0:x0.ffault=0
 rotate_left
 ·exact Kjy (by decide) (by decide) (by decide) hb r0 f0
 obtain ⟨g0,q0,a,na,la,ba⟩:=r0.gd f0
 obtain ⟨c0,t0,ht0,hn0,hz0⟩:=Kk1 hs g0
 have L0:=Khs g0
 have e0:Kbz (s,ctx,⟨11,(g:Int),ty,[k0]⟩,0)=some x0:=Kjg (i:=0) rfl r0 f0
 have o0:=Kjl (out:=[]) (nd:=[]) (us:=[]) (w:=0) (t:=⟨11,(g:Int),ty,[k0]⟩) (m:=[]) rfl (Kjs (by decide)) r0 (by simp; omega) f0 (by rw [ht0]; exact Kip (.inl (by decide))) (Kin (show (11:Int) ≠ 10 by decide)) na (by simp <;> omega) (by simp) (by simp) (by simp) (by simp)
 have hf:=Kj8 (ty:=ty) (ks:=[k0]) (ctx:=ctx) (us:=[Kge []]) (z:=Kge (List.replicate ctx.length 0)) (y0:=y0) (a:=a) hs hg' ba (by omega) (by rw [r0.ty]; omega)
 have im:=Kim (p0:=⟨s⟩) (t:=⟨11,(g:Int),ty,[k0]⟩) (ctx:=ctx) (by omega) (o0.trans (Kid (Nat.le_refl _))) hf
 rw [r0.ty] at im
 have hn:=hs.tab.hi
 refine Kjf.done (q:=(19 + (g:Int)) :: x0.fty) (ns:=Kgs s n g a) (kids:=[y0]) ?_ im (by omega) (fun hl=>Ki3 hs hg' g0 hl) (by unfold Kgs; rw [List.length_map]; exact la) (Kgy hs hg' ba) rfl (kd1 (Kje.mk' (Kjm (by decide) rfl) r0 f0 (fun _ h=>by cases h) rfl))
 have hg:=Khj (19 + (g:Int)) [x0.fty] (by simp) (by simp; omega)
 simp only [List.flatten_cons,List.flatten_nil,List.append_nil] at hg
 have hsc:=Kgy hs hg' ba
 have hz0:=Kh1 hs hsc
 rw [show (Kgs s n g a).length=ctx.length by unfold Kgs; rw [List.length_map]; exact la] at hz0
 have hsum:=Kh3 hs g hg' (List.replicate ctx.length 0) a (fun x hx=>by rw [List.eq_of_mem_replicate hx]; exact Kgm hs) ba (by simp; omega) (by simp [la])
 rw [hz0] at hsum
 have hw:wr (19 + (g:Int))=19 + (g:Int):=Kct (by omega) (by omega)
 rw [Kbx.eq_def]
 simp [e0,f0,hg,na,hw,Khg ctx.length (by omega),hsum]
theorem Kk5 (ih:Kjw s n (tsz (⟨9,N,ty,ks⟩:Kaw))) (h:tOk (gN s.fSize true) (yN s.fSize true) ctx.length ⟨9,N,ty,ks⟩=true) (hc:∀ q ∈ ctx,TyS s q) (hb:ctx.length + 2 * tsz (⟨9,N,ty,ks⟩:Kaw) ≤ 1000000):∃ x y,Kjf s n ctx ⟨9,N,ty,ks⟩ x y:=by
 obtain ⟨k0,rfl,p0⟩:=nd1 h (Nat.le_refl _) rfl
 have hz:=Kga 9 N ty k0
 obtain ⟨g,hN,hg'⟩:=Ki4 hs (Ki6 h rfl)
 simp only at hN
 subst hN
 have hy:TyS s ty:=Ki7 h rfl
 have ly:=Khs hy
 have hn:=hs.tab.hi
 have p0':Ki5 s ([ty] ++ ctx).length k0 (tsz (⟨9,(g:Int),ty,[k0]⟩:Kaw)):=by
  have e:([ty] ++ ctx).length=ctx.length + Keo 9 0:=by simp [Keo]
  rw [e]; exact p0
 obtain ⟨x0,y0,r0⟩:=ih k0 ([ty] ++ ctx) p0' (fun q hq=>by rcases List.mem_cons.1 hq with rfl | hq; exact hy; exact hc q hq) (by simp; omega)
 have hw9:=Khh ctx [ty] (by simp; omega)
 by_cases f0:x0.ffault=0
 rotate_left
 ·have e0:Kbz (s,ty :: ctx,⟨9,(g:Int),ty,[k0]⟩,0)=some ⟨[],[],x0.ffault,0 :: x0.fpath⟩:=Kjh (i:=0) rfl r0 (by omega) f0
  refine Kjf.bad (f:=x0.ffault) (p:=0 :: x0.fpath) ?_ (Kil (by omega) (Kji (m:=[ty]) rfl Kjt r0 (by omega) (by simp; omega) f0)) f0 (by have:=r0.pl; simp; omega)
  rw [Kbx.eq_def]
  simp [hw9,e0,f0]
 obtain ⟨g0,q0,a,na,la,ba⟩:=r0.gd f0
 obtain ⟨c0,t0,ht0,hn0,hz0⟩:=Kk1 hs g0
 have L0:=Khs g0
 have e0:Kbz (s,ty :: ctx,⟨9,(g:Int),ty,[k0]⟩,0)=some x0:=Kjg (i:=0) rfl r0 f0
 have la':a.length=ctx.length + 1:=by rw [la]; simp
 obtain ⟨u0,a',rfl⟩:∃ u0 a',a=u0 :: a':=by cases a with | nil=>simp at la' | cons u a'=>exact ⟨u,a',rfl⟩
 obtain ⟨hu0,ba'⟩:=Kgv ba
 have o0:=Kjl (out:=[]) (nd:=[]) (us:=[]) (w:=0) (t:=⟨9,(g:Int),ty,[k0]⟩) (m:=[ty]) rfl Kjt r0 (by simp; omega) f0 (by rw [ht0]; exact Kip (.inl (by decide))) (Kin (show (9:Int) ≠ 10 by decide)) na (by simp <;> omega) (by simp) (by simp) (by simp) (by simp)
 simp only [List.length_cons,List.length_nil,Nat.zero_add,List.drop_succ_cons,List.drop_zero,List.take_succ_cons,List.take_zero,List.nil_append] at o0
 have hf:=Kj7 (ty:=ty) (ks:=[k0]) (ctx:=ctx) (z:=Kge (List.replicate ctx.length 0)) (y0:=y0) (a:=a') (u:=[u0]) hs hg' (fun x hx=>by simp at hx; rw [hx]; exact hu0) (by simp) (by rw [r0.ty]; omega) (by omega)
 have hl0:=o0.trans (Kid (Nat.le_refl _))
 have hle:=sLe hs.tab hu0 hg'
 have hw:wr (3 + (g:Int))=3 + (g:Int):=Kct (by omega) (by omega)
 have hi0:idx x0.fneeds 0=some (u0:Int):=by rw [na]; rfl
 simp only [List.all_cons,List.all_nil,Bool.and_true] at hf
 cases hl:le s n u0 g with
 | false =>
  rw [hl,if_neg (by decide)] at hf
  refine Kjf.bad (f:=9) (p:=[]) ?_ (Kim (by omega) hl0 hf) (by decide) (by simp; omega)
  rw [Kbx.eq_def]
  simp [hw9,e0,f0,hi0,hle,hl,Kbp]
 | true =>
  rw [hl,if_pos rfl] at hf
  have im:=Kim (by omega) hl0 hf
  rw [r0.ty] at im
  refine Kjf.done (q:=(3 + (g:Int)) :: (ty ++ x0.fty)) (ns:=a') (kids:=[y0]) ?_ im (by omega) (fun hl=>Ki2 hs hy g0 (.inr (.inr ⟨g,hg',rfl⟩)) hl) (by simpa using la') ba' rfl (kd1 (Kje.mk' (m:=[ty]) Kjn r0 f0 (fun q hq=>by simp at hq; rw [hq]; exact hy) rfl))
  have hg:=Khj (3 + (g:Int)) [ty,x0.fty] (by simp) (by simp; omega)
  simp only [List.flatten_cons,List.flatten_nil,List.append_nil] at hg
  have hcut:cut x0.fneeds (some 1) none none=some (Kge a'):=by rw [na]; exact Kfx _ _
  rw [Kbx.eq_def]
  simp [hw9,e0,f0,hi0,hle,hl,hg,hw,hcut,Kf0 (Kge a') (by rw [Kgf]; simp at la'; omega)]
theorem Kk6 (ih:Kjw s n (tsz (⟨4,N,ty,ks⟩:Kaw))) (h:tOk (gN s.fSize true) (yN s.fSize true) ctx.length ⟨4,N,ty,ks⟩=true) (hc:∀ q ∈ ctx,TyS s q) (hb:ctx.length + 2 * tsz (⟨4,N,ty,ks⟩:Kaw) ≤ 1000000):∃ x y,Kjf s n ctx ⟨4,N,ty,ks⟩ x y:=by
 obtain ⟨k0,k1,rfl,p0,p1⟩:=nd2 h (Nat.le_refl _) rfl
 have hz:=Kgb 4 N ty k0 k1
 obtain ⟨x0,y0,r0⟩:=ih k0 ctx p0 hc (by omega)
 obtain ⟨x1,y1,r1⟩:=ih k1 ctx p1 hc (by omega)
 by_cases f0:x0.ffault=0
 rotate_left
 ·exact Kjy (by decide) (by decide) (by decide) hb r0 f0
 obtain ⟨g0,q0,a,na,la,ba⟩:=r0.gd f0
 obtain ⟨c0,t0,ht0,hn0,hz0⟩:=Kk1 hs g0
 have L0:=Khs g0
 have e0:Kbz (s,ctx,⟨4,N,ty,[k0,k1]⟩,0)=some x0:=Kjg (i:=0) rfl r0 f0
 have o0:=Kjl (out:=[]) (nd:=[]) (us:=[]) (w:=0) (t:=⟨4,N,ty,[k0,k1]⟩) (m:=[]) rfl (Kjs (by decide)) r0 (by simp; omega) f0 (by rw [ht0]; exact Kip (.inl (by decide))) (Kin (show (4:Int) ≠ 10 by decide)) na (by simp <;> omega) (by simp) (by simp) (by simp) (by simp)
 have m1:Kia ⟨4,N,ty,[k0,k1]⟩ [y0] 1=some []:=Kju (by decide) (Kjm (by decide) rfl)
 by_cases f1:x1.ffault=0
 rotate_left
 ·have e1:Kbz (s,ctx,⟨4,N,ty,[k0,k1]⟩,1)=some ⟨[],[],x1.ffault,1 :: x1.fpath⟩:=Kjh (i:=1) rfl r1 (by omega) f1
  refine Kjf.bad (f:=x1.ffault) (p:=1 :: x1.fpath) ?_ (Kil (by omega) (o0.trans (Kji (m:=[]) rfl m1 r1 (by omega) (by simp; omega) f1))) f1 (by have:=r1.pl; simp; omega)
  rw [Kbx.eq_def]
  simp [e0,f0,e1,f1]
 obtain ⟨g1,q1,b,nb,lb,bb⟩:=r1.gd f1
 obtain ⟨c1,t1,ht1,hn1,hz1⟩:=Kk1 hs g1
 have L1:=Khs g1
 have e1:Kbz (s,ctx,⟨4,N,ty,[k0,k1]⟩,1)=some x1:=Kjg (i:=1) rfl r1 f1
 have o1:=Kjl (out:=[y0]) (nd:=[Kge a]) (us:=[Kge []]) (w:=1) (t:=⟨4,N,ty,[k0,k1]⟩) (m:=[]) rfl m1 r1 (by simp; omega) f1 (by rw [ht1]; exact Kip (.inl (by decide))) (Kin (show (4:Int) ≠ 10 by decide)) nb (by simp <;> omega) (by simp) (by simp) (by simp) (by simp)
 have hf:=Kj6 (N:=N) (ty:=ty) (ks:=[k0,k1]) (ctx:=ctx) (us:=[Kge [],Kge []]) (z:=Kge (List.replicate ctx.length 0)) (y0:=y0) (y1:=y1) hs ba bb (by omega) (by omega) (by rw [r0.ty]; omega) (by rw [r1.ty]; omega)
 have im:=Kim (p0:=⟨s⟩) (t:=⟨4,N,ty,[k0,k1]⟩) (ctx:=ctx) (by omega) (o0.trans (o1.trans (Kid (Nat.le_refl _)))) hf
 rw [r0.ty,r1.ty] at im
 refine Kjf.done (q:=1 :: (x0.fty ++ x1.fty)) (ns:=Kgr s n a b) (kids:=[y0,y1]) ?_ im (by omega) (fun hl=>Ki2 hs g0 g1 (.inl rfl) hl) (by unfold Kgr; rw [List.length_zipWith]; omega) (Kgx hs ba bb) rfl (kd2 (Kje.mk' (Kjm (by decide) rfl) r0 f0 (fun _ h=>by cases h) rfl) (Kje.mk' (Kjm (by decide) rfl) r1 f1 (fun _ h=>by cases h) rfl))
 have hg:=Khj 1 [x0.fty,x1.fty] (by simp) (by simp; omega)
 simp only [List.flatten_cons,List.flatten_nil,List.append_nil] at hg
 rw [Kbx.eq_def]
 simp [e0,f0,e1,f1,hg,na,nb,Kh4 hs a b ba bb (by omega) (by omega)]
theorem Kk7 (ih:Kjw s n (tsz (⟨2,N,ty,ks⟩:Kaw))) (h:tOk (gN s.fSize true) (yN s.fSize true) ctx.length ⟨2,N,ty,ks⟩=true) (hc:∀ q ∈ ctx,TyS s q) (hb:ctx.length + 2 * tsz (⟨2,N,ty,ks⟩:Kaw) ≤ 1000000):∃ x y,Kjf s n ctx ⟨2,N,ty,ks⟩ x y:=by
 obtain ⟨k0,k1,rfl,p0,p1⟩:=nd2 h (Nat.le_refl _) rfl
 have hz:=Kgb 2 N ty k0 k1
 obtain ⟨x0,y0,r0⟩:=ih k0 ctx p0 hc (by omega)
 obtain ⟨x1,y1,r1⟩:=ih k1 ctx p1 hc (by omega)
 by_cases f0:x0.ffault=0
 rotate_left
 ·exact Kjy (by decide) (by decide) (by decide) hb r0 f0
 obtain ⟨g0,q0,a,na,la,ba⟩:=r0.gd f0
 obtain ⟨c0,t0,ht0,hn0,hz0⟩:=Kk1 hs g0
 have L0:=Khs g0
 have e0:Kbz (s,ctx,⟨2,N,ty,[k0,k1]⟩,0)=some x0:=Kjg (i:=0) rfl r0 f0
 have i0:idx x0.fty 0=some c0:=by rw [ht0]; rfl
 by_cases z0:c0=0
 rotate_left
 ·refine Kjf.bad (f:=2) (p:=[]) ?_ (Kil (by omega) (Kjj (m:=[]) rfl (Kjs (by decide)) r0 (by simp; omega) f0 (by rw [ht0,Kiq,if_neg (by rw [hn0]; exact z0)]) (by decide))) (by decide) (by simp; omega)
  rw [Kbx.eq_def]
  simp [e0,f0,i0,z0,Kbp]
 have u0:=hz0 z0
 have s0:(Ke2 c0).1=0:=hn0.2 z0
 have o0:=Kjl (out:=[]) (nd:=[]) (us:=[]) (w:=0) (t:=⟨2,N,ty,[k0,k1]⟩) (m:=[]) rfl (Kjs (by decide)) r0 (by simp; omega) f0 (by rw [ht0,Kiq,if_pos s0]) (Kin (show (2:Int) ≠ 10 by decide)) na (by simp <;> omega) (by simp) (by simp) (by simp) (by simp)
 have m1:Kia ⟨2,N,ty,[k0,k1]⟩ [y0] 1=some []:=Kju (by decide) (Kjm (by decide) rfl)
 by_cases f1:x1.ffault=0
 rotate_left
 ·have e1:Kbz (s,ctx,⟨2,N,ty,[k0,k1]⟩,1)=some ⟨[],[],x1.ffault,1 :: x1.fpath⟩:=Kjh (i:=1) rfl r1 (by omega) f1
  refine Kjf.bad (f:=x1.ffault) (p:=1 :: x1.fpath) ?_ (Kil (by omega) (o0.trans (Kji (m:=[]) rfl m1 r1 (by omega) (by simp; omega) f1))) f1 (by have:=r1.pl; simp; omega)
  rw [Kbx.eq_def]
  simp [e0,f0,i0,z0,Kc0.eq_def,e1,f1]
 obtain ⟨g1,q1,b,nb,lb,bb⟩:=r1.gd f1
 obtain ⟨c1,t1,ht1,hn1,hz1⟩:=Kk1 hs g1
 have L1:=Khs g1
 have e1:Kbz (s,ctx,⟨2,N,ty,[k0,k1]⟩,1)=some x1:=Kjg (i:=1) rfl r1 f1
 have i1:idx x1.fty 0=some c1:=by rw [ht1]; rfl
 by_cases z1:c1=0
 rotate_left
 ·refine Kjf.bad (f:=2) (p:=[]) ?_ (Kil (by omega) (o0.trans (Kjj (m:=[]) rfl m1 r1 (by simp; omega) f1 (by rw [ht1,Kiq,if_neg (by rw [hn1]; exact z1)]) (by decide)))) (by decide) (by simp; omega)
  rw [Kbx.eq_def]
  simp [e0,f0,i0,z0,e1,f1,i1,z1,Kbp,Kc0.eq_def]
 have u1:=hz1 z1
 have s1:(Ke2 c1).1=0:=hn1.2 z1
 have o1:=Kjl (out:=[y0]) (nd:=[Kge a]) (us:=[Kge []]) (w:=1) (t:=⟨2,N,ty,[k0,k1]⟩) (m:=[]) rfl m1 r1 (by simp; omega) f1 (by rw [ht1,Kiq,if_pos s1]) (Kin (show (2:Int) ≠ 10 by decide)) nb (by simp <;> omega) (by simp) (by simp) (by simp) (by simp)
 have hf:=Kj4 (N:=N) (ty:=ty) (ks:=[k0,k1]) (ctx:=ctx) (us:=[Kge [],Kge []]) (z:=Kge (List.replicate ctx.length 0)) (y0:=y0) (y1:=y1) hs ba bb (by omega) (by omega)
 have im:=Kim (p0:=⟨s⟩) (t:=⟨2,N,ty,[k0,k1]⟩) (ctx:=ctx) (by omega) (o0.trans (o1.trans (Kid (Nat.le_refl _)))) hf
 replace im:=Kjx (q:=[0]) (ns:=Kgr s n a b) (kids:=[y0,y1]) (by decide) im
 refine Kjf.good (q:=[0]) (ns:=Kgr s n a b) (kids:=[y0,y1]) ?_ im (by omega) Khy (by unfold Kgr; rw [List.length_zipWith]; omega) (Kgx hs ba bb) rfl (kd2 (Kje.mk' (Kjm (by decide) rfl) r0 f0 (fun _ h=>by cases h) rfl) (Kje.mk' (Kjm (by decide) rfl) r1 f1 (fun _ h=>by cases h) rfl))
 rw [Kbx.eq_def]
 simp [e0,f0,i0,z0,e1,f1,i1,z1,na,nb,u1,Kix,Kh4 hs a b ba bb (by omega) (by omega),Kc0.eq_def]
theorem Kk8 (ih:Kjw s n (tsz (⟨3,N,ty,ks⟩:Kaw))) (h:tOk (gN s.fSize true) (yN s.fSize true) ctx.length ⟨3,N,ty,ks⟩=true) (hc:∀ q ∈ ctx,TyS s q) (hb:ctx.length + 2 * tsz (⟨3,N,ty,ks⟩:Kaw) ≤ 1000000):∃ x y,Kjf s n ctx ⟨3,N,ty,ks⟩ x y:=by
 obtain ⟨k0,k1,k2,rfl,p0,p1,p2⟩:=nd3 h (Nat.le_refl _) rfl
 have hz:=Kgc 3 N ty k0 k1 k2
 obtain ⟨x0,y0,r0⟩:=ih k0 ctx p0 hc (by omega)
 obtain ⟨x1,y1,r1⟩:=ih k1 ctx p1 hc (by omega)
 obtain ⟨x2,y2,r2⟩:=ih k2 ctx p2 hc (by omega)
 by_cases f0:x0.ffault=0
 rotate_left
 ·exact Kjy (by decide) (by decide) (by decide) hb r0 f0
 obtain ⟨g0,q0,a,na,la,ba⟩:=r0.gd f0
 obtain ⟨c0,t0,ht0,hn0,hz0⟩:=Kk1 hs g0
 have L0:=Khs g0
 have e0:Kbz (s,ctx,⟨3,N,ty,[k0,k1,k2]⟩,0)=some x0:=Kjg (i:=0) rfl r0 f0
 have i0:idx x0.fty 0=some c0:=by rw [ht0]; rfl
 by_cases z0:c0=0
 rotate_left
 ·refine Kjf.bad (f:=2) (p:=[]) ?_ (Kil (by omega) (Kjj (m:=[]) rfl (Kjs (by decide)) r0 (by simp; omega) f0 (by rw [ht0,Kir,if_neg (by rw [hn0]; exact z0)]) (by decide))) (by decide) (by simp; omega)
  rw [Kbx.eq_def]
  simp [e0,f0,i0,z0,Kbp]
 have u0:=hz0 z0
 have s0:(Ke2 c0).1=0:=hn0.2 z0
 have o0:=Kjl (out:=[]) (nd:=[]) (us:=[]) (w:=0) (t:=⟨3,N,ty,[k0,k1,k2]⟩) (m:=[]) rfl (Kjs (by decide)) r0 (by simp; omega) f0 (by rw [ht0,Kir,if_pos s0]) (Kin (show (3:Int) ≠ 10 by decide)) na (by simp <;> omega) (by simp) (by simp) (by simp) (by simp)
 have m1:Kia ⟨3,N,ty,[k0,k1,k2]⟩ [y0] 1=some []:=Kju (by decide) (Kjm (by decide) rfl)
 by_cases f1:x1.ffault=0
 rotate_left
 ·have e1:Kbz (s,ctx,⟨3,N,ty,[k0,k1,k2]⟩,1)=some ⟨[],[],x1.ffault,1 :: x1.fpath⟩:=Kjh (i:=1) rfl r1 (by omega) f1
  refine Kjf.bad (f:=x1.ffault) (p:=1 :: x1.fpath) ?_ (Kil (by omega) (o0.trans (Kji (m:=[]) rfl m1 r1 (by omega) (by simp; omega) f1))) f1 (by have:=r1.pl; simp; omega)
  rw [Kbx.eq_def]
  simp [e0,f0,i0,z0,Kc0.eq_def,e1,f1]
 obtain ⟨g1,q1,b,nb,lb,bb⟩:=r1.gd f1
 obtain ⟨c1,t1,ht1,hn1,hz1⟩:=Kk1 hs g1
 have L1:=Khs g1
 have e1:Kbz (s,ctx,⟨3,N,ty,[k0,k1,k2]⟩,1)=some x1:=Kjg (i:=1) rfl r1 f1
 have o1:=Kjl (out:=[y0]) (nd:=[Kge a]) (us:=[Kge []]) (w:=1) (t:=⟨3,N,ty,[k0,k1,k2]⟩) (m:=[]) rfl m1 r1 (by simp; omega) f1 (by rw [ht1]; exact Kip (.inr (by decide))) (Kin (show (3:Int) ≠ 10 by decide)) nb (by simp <;> omega) (by simp) (by simp) (by simp) (by simp)
 have m2:Kia ⟨3,N,ty,[k0,k1,k2]⟩ [y0,y1] 2=some []:=Kju (by decide) (Kjm (by decide) rfl)
 by_cases f2:x2.ffault=0
 rotate_left
 ·have e2:Kbz (s,ctx,⟨3,N,ty,[k0,k1,k2]⟩,2)=some ⟨[],[],x2.ffault,2 :: x2.fpath⟩:=Kjh (i:=2) rfl r2 (by omega) f2
  refine Kjf.bad (f:=x2.ffault) (p:=2 :: x2.fpath) ?_ (Kil (by omega) (o0.trans (o1.trans (Kji (m:=[]) rfl m2 r2 (by omega) (by simp; omega) f2)))) f2 (by have:=r2.pl; simp; omega)
  rw [Kbx.eq_def]
  simp [e0,f0,i0,z0,e1,f1,Kc0.eq_def,e2,f2]
 obtain ⟨g2,q2,d,nd,ld,bd⟩:=r2.gd f2
 obtain ⟨c2,t2,ht2,hn2,hz2⟩:=Kk1 hs g2
 have L2:=Khs g2
 have e2:Kbz (s,ctx,⟨3,N,ty,[k0,k1,k2]⟩,2)=some x2:=Kjg (i:=2) rfl r2 f2
 have o2:=Kjl (out:=[y0,y1]) (nd:=[Kge a,Kge b]) (us:=[Kge [],Kge []]) (w:=2) (t:=⟨3,N,ty,[k0,k1,k2]⟩) (m:=[]) rfl m2 r2 (by simp; omega) f2 (by rw [ht2]; exact Kip (.inr (by decide))) (Kin (show (3:Int) ≠ 10 by decide)) nd (by simp <;> omega) (by simp) (by simp) (by simp) (by simp)
 have hf:=Kj5 (N:=N) (ty:=ty) (ks:=[k0,k1,k2]) (ctx:=ctx) (us:=[Kge [],Kge [],Kge []]) (z:=Kge (List.replicate ctx.length 0)) (y0:=y0) (y1:=y1) (y2:=y2) hs ba bb bd (by omega) (by omega) (by omega) (by rw [r2.ty]; omega) (by rw [r1.ty]; omega)
 have hl0:=o0.trans (o1.trans (o2.trans (Kid (Nat.le_refl _))))
 
 have hsm:=Kg4 x1.fty x2.fty (by omega)
 have lj:(Kgt s n b d).length=ctx.length:=by unfold Kgt; rw [List.length_zipWith]; omega
 rw [r1.ty,r2.ty] at hf
 by_cases hq:x1.fty=x2.fty
 ·rw [if_pos hq] at hf
  have im:=Kim (by omega) hl0 hf
  replace im:=Kjx (q:=x1.fty) (ns:=Kgr s n a (Kgt s n b d)) (kids:=[y0,y1,y2]) (by omega) im
  refine Kjf.good (q:=x1.fty) (ns:=Kgr s n a (Kgt s n b d)) (kids:=[y0,y1,y2]) ?_ im (by omega) g1 (by unfold Kgr; rw [List.length_zipWith]; omega) (Kgx hs ba (Kgz hs bb bd)) rfl (kd3 (Kje.mk' (Kjm (by decide) rfl) r0 f0 (fun _ h=>by cases h) rfl) (Kje.mk' (Kjm (by decide) rfl) r1 f1 (fun _ h=>by cases h) rfl) (Kje.mk' (Kjm (by decide) rfl) r2 f2 (fun _ h=>by cases h) rfl))
  rw [show (x1.fty == x2.fty)=true from beq_iff_eq.2 hq] at hsm
  rw [Kbx.eq_def]
  simp [e0,f0,i0,z0,e1,f1,e2,f2,hsm,na,nb,nd,Kh6 hs b d bb bd (by omega) (by omega),Kh4 hs a (Kgt s n b d) ba (Kgz hs bb bd) (by omega) (by omega),Kc0.eq_def]
 ·rw [if_neg hq] at hf
  refine Kjf.bad (f:=3) (p:=[]) ?_ (Kim (by omega) hl0 hf) (by decide) (by simp; omega)
  rw [show (x1.fty == x2.fty)=false from beq_eq_false_iff_ne.2 hq] at hsm
  rw [Kbx.eq_def]
  simp [e0,f0,i0,z0,e1,f1,e2,f2,hsm,Kc0.eq_def,Kbp]
end
theorem Kk9 (g:Nat) (h:g ≤ 15):Ke2 (3 + (g:Int))=(3,(g:Int)):=by
 rcases Ke4 (3 + (g:Int)) with h | h | h | h | h | h | h | h <;> first | omega | (obtain ⟨_,e⟩:=h; rw [e]; congr 1; omega)
theorem Kka (g:Nat) (h:g ≤ 15):Ke2 (19 + (g:Int))=(4,(g:Int)):=by
 rcases Ke4 (19 + (g:Int)) with h | h | h | h | h | h | h | h <;> first | omega | (obtain ⟨_,e⟩:=h; rw [e]; congr 1; omega)
theorem Kkb (g:Nat) (h:g ≤ 15):Kdv (3 + (g:Int))=true:=by unfold Kdv inB; simp; omega
theorem Kkc (g:Nat) (h:g ≤ 15):Kdv (19 + (g:Int))=false:=by unfold Kdv inB; simp; omega
theorem Kkd (g:Nat) (h:g ≤ 15):Kdw (3 + (g:Int))=false:=by unfold Kdw inB; simp; omega
theorem Kke (g:Nat) (h:g ≤ 15):Kdw (19 + (g:Int))=true:=by unfold Kdw inB; simp; omega
theorem Kkf (g:Nat) (h:g ≤ 15):Kb9 (3 + (g:Int))=some (g:Int):=by
 rw [Keh (by rcases Ke1 (3 + (g:Int)) with h | h | h | h <;> omega)]
 unfold Kef
 rw [if_neg (by omega),if_neg (by omega)]
 congr 1; omega
theorem Kkg (g:Nat) (h:g ≤ 15):Kb9 (19 + (g:Int))=some (g:Int):=by
 rw [Keh (by rcases Ke1 (19 + (g:Int)) with h | h | h | h <;> omega)]
 unfold Kef
 rw [if_neg (by omega),if_pos (by omega)]
 congr 1; omega
section
variable {s:K00} {n:Nat} (hs:Kgj s n) {ctx:List (List Int)} {N:Int} {ty:List Int} {ks:List Kaw}
include hs
structure Kkh (s:K00) (n:Nat) (q:List Int) (c:Int):Prop where
 arr:(Ke2 c).1=3→∃ (g:Nat) (a b:List Int),g < n∧g ≤ 15∧c=3 + (g:Int)∧q=c :: (a ++ b)∧Khv s (3 + (g:Int)) a b
 pair:(Ke2 c).1=1→∃ (a b:List Int),c=1∧q=c :: (a ++ b)∧Khv s 1 a b
 sum:(Ke2 c).1=2→∃ (a b:List Int),c=2∧q=c :: (a ++ b)∧Khv s 2 a b
 box:(Ke2 c).1=4→∃ (g:Nat) (a:List Int),g < n∧g ≤ 15∧c=19 + (g:Int)∧q=c :: a∧Khw s (19 + (g:Int)) a
 arrB:Kdv c=true ↔ (Ke2 c).1=3
 boxB:Kdw c=true ↔ (Ke2 c).1=4
 one:c=1 ↔ (Ke2 c).1=1
 two:c=2 ↔ (Ke2 c).1=2
theorem Kki {q:List Int} (hq:TyS s q) {c:Int} {r:List Int} (e:q=c :: r):Kkh s n q c:=by
 rcases Ki1 hs hq with rfl | ⟨a,b,rfl,P⟩ | ⟨a,b,rfl,P⟩ | ⟨g,a,b,hg,h15,rfl,P⟩ | ⟨g,a,hg,h15,rfl,P⟩
 ·cases e
  refine ⟨fun h=>?_,fun h=>?_,fun h=>?_,fun h=>?_,by decide,by decide,by decide,by decide⟩ <;> exact absurd h (by decide)
 ·cases e
  refine ⟨fun h=>absurd h (by decide),fun _=>⟨a,b,rfl,rfl,P⟩,fun h=>absurd h (by decide),fun h=>absurd h (by decide),by decide,by decide,by decide,by decide⟩
 ·cases e
  refine ⟨fun h=>absurd h (by decide),fun h=>absurd h (by decide),fun _=>⟨a,b,rfl,rfl,P⟩,fun h=>absurd h (by decide),by decide,by decide,by decide,by decide⟩
 ·cases e
  have hsh:=Kk9 g h15
  refine ⟨fun _=>⟨g,a,b,hg,h15,rfl,rfl,P⟩,fun h=>?_,fun h=>?_,fun h=>?_,?_,?_,?_,?_⟩
  ·rw [hsh] at h; simp at h
  ·rw [hsh] at h; simp at h
  ·rw [hsh] at h; simp at h
  ·rw [hsh,Kkb g h15]; simp
  ·rw [hsh,Kkd g h15]; simp
  ·rw [hsh]; simp; omega
  ·rw [hsh]; simp; omega
 ·cases e
  have hsh:=Kka g h15
  refine ⟨fun h=>?_,fun h=>?_,fun h=>?_,fun _=>⟨g,_,hg,h15,rfl,rfl,P⟩,?_,?_,?_,?_⟩
  ·rw [hsh] at h; simp at h
  ·rw [hsh] at h; simp at h
  ·rw [hsh] at h; simp at h
  ·rw [hsh,Kkc g h15]; simp
  ·rw [hsh,Kke g h15]; simp
  ·rw [hsh]; simp; omega
  ·rw [hsh]; simp; omega
theorem Kkj (ih:Kjw s n (tsz (⟨10,N,ty,ks⟩:Kaw))) (h:tOk (gN s.fSize true) (yN s.fSize true) ctx.length ⟨10,N,ty,ks⟩=true) (hc:∀ q ∈ ctx,TyS s q) (hb:ctx.length + 2 * tsz (⟨10,N,ty,ks⟩:Kaw) ≤ 1000000):∃ x y,Kjf s n ctx ⟨10,N,ty,ks⟩ x y:=by
 obtain ⟨k0,k1,rfl,p0,p1⟩:=nd2 h (Nat.le_refl _) rfl
 have hz:=Kgb 10 N ty k0 k1
 obtain ⟨x0,y0,r0⟩:=ih k0 ctx p0 hc (by omega)
 obtain ⟨x1,y1,r1⟩:=ih k1 ctx p1 hc (by omega)
 by_cases f0:x0.ffault=0
 rotate_left
 ·exact Kjy (by decide) (by decide) (by decide) hb r0 f0
 obtain ⟨g0,q0,a,na,la,ba⟩:=r0.gd f0
 obtain ⟨c0,t0,ht0,hn0,hz0⟩:=Kk1 hs g0
 have L0:=Khs g0
 have e0:Kbz (s,ctx,⟨10,N,ty,[k0,k1]⟩,0)=some x0:=Kjg (i:=0) rfl r0 f0
 have C:=Kki hs g0 ht0
 have i0:idx x0.fty 0=some c0:=by rw [ht0]; rfl
 by_cases z0:(Ke2 c0).1=3
 rotate_left
 ·have w0:Kdv c0=false:=by cases h:Kdv c0 with | true=>exact absurd (C.arrB.1 h) z0 | false=>rfl
  refine Kjf.bad (f:=6) (p:=[]) ?_ (Kil (by omega) (Kjj (m:=[]) rfl (Kjs (by decide)) r0 (by simp; omega) f0 (by rw [ht0,Kis,if_neg z0]) (by decide))) (by decide) (by simp; omega)
  rw [Kbx.eq_def]
  simp [e0,f0,i0,Kdy,w0,Kbp]
 obtain ⟨g,p,q,hg,h15,hcg,hq,P⟩:=C.arr z0
 have w0:Kdv c0=true:=C.arrB.2 z0
 have o0:=Kjl (out:=[]) (nd:=[]) (us:=[]) (w:=0) (t:=⟨10,N,ty,[k0,k1]⟩) (m:=[]) rfl (Kjs (by decide)) r0 (by simp; omega) f0 (by rw [ht0,Kis,if_pos z0]) (Kio (by decide)) na (by simp <;> omega) (by simp) (by simp) (by simp) (by simp)
 have m1:Kia ⟨10,N,ty,[k0,k1]⟩ [y0] 1=some []:=Kju (by decide) (Kjm (by decide) rfl)
 by_cases f1:x1.ffault=0
 rotate_left
 ·have e1:Kbz (s,ctx,⟨10,N,ty,[k0,k1]⟩,1)=some ⟨[],[],x1.ffault,1 :: x1.fpath⟩:=Kjh (i:=1) rfl r1 (by omega) f1
  refine Kjf.bad (f:=x1.ffault) (p:=1 :: x1.fpath) ?_ (Kil (by omega) (o0.trans (Kji (m:=[]) rfl m1 r1 (by omega) (by simp; omega) f1))) f1 (by have:=r1.pl; simp; omega)
  rw [Kbx.eq_def]
  simp [e0,f0,i0,Kdy,w0,e1,f1]
 obtain ⟨g1,q1,b,nb,lb,bb⟩:=r1.gd f1
 obtain ⟨c1,t1,ht1,hn1,hz1⟩:=Kk1 hs g1
 have L1:=Khs g1
 have e1:Kbz (s,ctx,⟨10,N,ty,[k0,k1]⟩,1)=some x1:=Kjg (i:=1) rfl r1 f1
 have hp0:Kbf (x0.fty,0)=some p:=by rw [hq,hcg]; exact P.p0
 have hp1:Kbf (x0.fty,1)=some q:=by rw [hq,hcg]; exact P.p1
 have hpp:Kbh y0.fty=some [p,q]:=by rw [r0.ty,hq,hcg]; exact P.pp
 have Lp:=Khs P.ya
 have Lq:=Khs P.yb
 have hsm:=Kg4 x1.fty p (by omega)
 have hsi:=Kg6 x1.fty p (by omega)
 have ha:Kig ⟨10,N,ty,[k0,k1]⟩ [y0] 1 y1=some (!(x1.fty == p)):=by
  unfold Kig
  rw [if_pos (show ((10:Int) == 10)=true by decide),if_pos (by decide),Kix,bs,hpp,bs,Kix,bs,r1.ty,hsi,bs]
 by_cases hqq:x1.fty=p
 rotate_left
 ·rw [show (x1.fty == p)=false from beq_eq_false_iff_ne.2 hqq] at hsm ha
  refine Kjf.bad (f:=3) (p:=[]) ?_ (Kil (by omega) (o0.trans (Kjk (m:=[]) rfl m1 r1 (by simp; omega) f1 (by rw [ht1]; exact Kip (.inr (by decide))) ha))) (by decide) (by simp; omega)
  rw [Kbx.eq_def]
  simp [e0,f0,i0,Kdy,w0,e1,f1,hp0,hsm,Kbp]
 rw [show (x1.fty == p)=true from beq_iff_eq.2 hqq] at hsm ha
 have o1:=Kjl (out:=[y0]) (nd:=[Kge a]) (us:=[Kge []]) (w:=1) (t:=⟨10,N,ty,[k0,k1]⟩) (m:=[]) rfl m1 r1 (by simp; omega) f1 (by rw [ht1]; exact Kip (.inr (by decide))) ha nb (by simp <;> omega) (by simp) (by simp) (by simp) (by simp)
 have hf:=Kj9 (N:=N) (ty:=ty) (ks:=[k0,k1]) (ctx:=ctx) (us:=[Kge [],Kge []]) (z:=Kge (List.replicate ctx.length 0)) (y0:=y0) (y1:=y1) hs hg (p:=p) (q:=q) (by rw [r0.ty,hq,hcg]) P ba bb (by omega) (by omega)
 have im:=Kjx (q:=q) (ns:=Kgr s n a (Kgs s n g b)) (kids:=[y0,y1]) Lq (Kim (p0:=⟨s⟩) (t:=⟨10,N,ty,[k0,k1]⟩) (ctx:=ctx) (by omega) (o0.trans (o1.trans (Kid (Nat.le_refl _)))) hf)
 have lsc:(Kgs s n g b).length=ctx.length:=by unfold Kgs; rw [List.length_map]; exact lb
 refine Kjf.good (q:=q) (ns:=Kgr s n a (Kgs s n g b)) (kids:=[y0,y1]) ?_ im (by omega) P.yb (by unfold Kgr; rw [List.length_zipWith]; omega) (Kgx hs ba (Kgy hs hg bb)) rfl (kd2 (Kje.mk' (Kjm (by decide) rfl) r0 f0 (fun _ h=>by cases h) rfl) (Kje.mk' (Kjm (by decide) rfl) r1 f1 (fun _ h=>by cases h) rfl))
 have hgr:Kb9 c0=some (g:Int):=by rw [hcg]; exact Kkf g h15
 rw [Kbx.eq_def]
 simp [e0,f0,i0,Kdy,w0,e1,f1,hp0,hp1,hsm,hgr,na,nb,Kh3 hs g hg a b ba bb (by omega) (by omega)]
theorem Kkk (ih:Kjw s n (tsz (⟨5,N,ty,ks⟩:Kaw))) (h:tOk (gN s.fSize true) (yN s.fSize true) ctx.length ⟨5,N,ty,ks⟩=true) (hc:∀ q ∈ ctx,TyS s q) (hb:ctx.length + 2 * tsz (⟨5,N,ty,ks⟩:Kaw) ≤ 1000000):∃ x y,Kjf s n ctx ⟨5,N,ty,ks⟩ x y:=by
 obtain ⟨k0,k1,rfl,p0,p1⟩:=nd2 h (Nat.le_refl _) rfl
 have hz:=Kgb 5 N ty k0 k1
 obtain ⟨g,hN,hg⟩:=Ki4 hs (Ki6 h rfl)
 simp only at hN
 subst hN
 obtain ⟨x0,y0,r0⟩:=ih k0 ctx p0 hc (by omega)
 by_cases f0:x0.ffault=0
 rotate_left
 ·exact Kjy (by decide) (by decide) (by decide) hb r0 f0
 obtain ⟨g0,q0,a,na,la,ba⟩:=r0.gd f0
 obtain ⟨c0,t0,ht0,hn0,hz0⟩:=Kk1 hs g0
 have L0:=Khs g0
 have e0:Kbz (s,ctx,⟨5,(g:Int),ty,[k0,k1]⟩,0)=some x0:=Kjg (i:=0) rfl r0 f0
 have C:=Kki hs g0 ht0
 have i0:idx x0.fty 0=some c0:=by rw [ht0]; rfl
 by_cases z0:(Ke2 c0).1=1
 rotate_left
 ·have w0:c0 ≠ 1:=fun h=>z0 (C.one.1 h)
  refine Kjf.bad (f:=4) (p:=[]) ?_ (Kil (by omega) (Kjj (m:=[]) rfl (Kjs (by decide)) r0 (by simp; omega) f0 (by rw [ht0,Kit hs hg,if_neg z0]) (by decide))) (by decide) (by simp; omega)
  rw [Kbx.eq_def]
  simp [e0,f0,i0,Kby.eq_def,w0,Kbp]
 obtain ⟨p,q,hcg,hq,P⟩:=C.pair z0
 have hle:=sLe hs.tab (Kgl hs) hg
 cases hl:le s n 1 g with
 | false =>
  have hl2:Kb0 (s,1,(g:Int))=some false:=by rw [← hl]; exact hle
  refine Kjf.bad (f:=8) (p:=[]) ?_ (Kil (by omega) (Kjj (m:=[]) rfl (Kjs (by decide)) r0 (by simp; omega) f0 (by rw [ht0,Kit hs hg,if_pos z0,hl]; rfl) (by decide))) (by decide) (by simp; omega)
  rw [Kbx.eq_def]
  simp [e0,f0,i0,Kby.eq_def,hcg,hl2,Kbp]
 | true =>
 have hl2:Kb0 (s,1,(g:Int))=some true:=by rw [← hl]; exact hle
 have o0:=Kjl (out:=[]) (nd:=[]) (us:=[]) (w:=0) (t:=⟨5,(g:Int),ty,[k0,k1]⟩) (m:=[]) rfl (Kjs (by decide)) r0 (by simp; omega) f0 (by rw [ht0,Kit hs hg,if_pos z0,hl]; rfl) (Kin (show (5:Int) ≠ 10 by decide)) na (by simp <;> omega) (by simp) (by simp) (by simp) (by simp)
 have hp0:Kbf (x0.fty,0)=some p:=by rw [hq,hcg]; exact P.p0
 have hp1:Kbf (x0.fty,1)=some q:=by rw [hq,hcg]; exact P.p1
 have ad:Kc1 (⟨5,(g:Int),ty,[k0,k1]⟩,((1:Nat):Int),y0.fty)=some [q,p]:=by rw [r0.ty,hq,hcg]; exact Kjo P
 have hm':∀ z ∈ [q,p],TyS s z:=fun z hz=>by simp at hz; rcases hz with rfl | rfl; exact P.yb; exact P.ya
 have m1:Kia ⟨5,(g:Int),ty,[k0,k1]⟩ [y0] 1=some [q,p]:=Kju (by decide) ad
 have p1':Ki5 s ([q,p] ++ ctx).length k1 (tsz (⟨5,(g:Int),ty,[k0,k1]⟩:Kaw)):=by
  have e:([q,p] ++ ctx).length=ctx.length + Keo 5 1:=by simp [Keo]
  rw [e]; exact p1
 obtain ⟨x1,y1,r1⟩:=ih k1 ([q,p] ++ ctx) p1' (fun z hz=>by rcases List.mem_append.1 hz with hz | hz; exact hm' z hz; exact hc z hz) (by simp; omega)
 have hwc:=Khh ctx [q,p] (by simp; omega)
 by_cases f1:x1.ffault=0
 rotate_left
 ·have e1:Kbz (s,q :: p :: ctx,⟨5,(g:Int),ty,[k0,k1]⟩,1)=some ⟨[],[],x1.ffault,1 :: x1.fpath⟩:=Kjh (i:=1) rfl r1 (by omega) f1
  refine Kjf.bad (f:=x1.ffault) (p:=1 :: x1.fpath) ?_ (Kil (by omega) (o0.trans (Kji (m:=[q,p]) rfl m1 r1 (by omega) (by simp; omega) f1))) f1 (by have:=r1.pl; simp; omega)
  rw [Kbx.eq_def]
  simp [e0,f0,i0,Kby.eq_def,hcg,hl2,hp0,hp1,hwc,e1,f1]
 obtain ⟨g1,q1,b,nb,lb,bb⟩:=r1.gd f1
 obtain ⟨c1,t1,ht1,hn1,hz1⟩:=Kk1 hs g1
 have L1:=Khs g1
 have e1:Kbz (s,q :: p :: ctx,⟨5,(g:Int),ty,[k0,k1]⟩,1)=some x1:=Kjg (i:=1) rfl r1 f1
 have lb':b.length=ctx.length + 2:=by rw [lb]; simp
 obtain ⟨u0,u1,b',rfl⟩:∃ u0 u1 b',b=u0 :: u1 :: b':=by match b,lb' with | u0 :: u1 :: b',_=>exact ⟨u0,u1,b',rfl⟩ | [_],h=>simp at h | [],h=>simp at h
 obtain ⟨hu0,bb1⟩:=Kgv bb
 obtain ⟨hu1,bb'⟩:=Kgv bb1
 have o1:=Kjl (out:=[y0]) (nd:=[Kge a]) (us:=[Kge []]) (w:=1) (t:=⟨5,(g:Int),ty,[k0,k1]⟩) (m:=[q,p]) rfl m1 r1 (by simp; omega) f1 (by rw [ht1]; exact Kip (.inr (by decide))) (Kin (show (5:Int) ≠ 10 by decide)) nb (by simp <;> omega) (by simp) (by simp) (by simp) (by simp)
 simp only [List.length_cons,List.length_nil,Nat.zero_add,List.drop_succ_cons,List.drop_zero,List.take_succ_cons,List.take_zero,List.nil_append] at o1
 have hl0:=o0.trans (o1.trans (Kid (Nat.le_refl _)))
 have lbc:b'.length=ctx.length:=by simp at lb'; omega
 have i1:idx x1.fneeds 0=some (u0:Int):=by rw [nb]; rfl
 have hcut:cut x1.fneeds (some (2:Int)) none none=some (Kge b'):=by
  rw [nb]
  have:=Kif (l:=Kge (u0 :: u1 :: b')) (m:=2) (by simp [Kge])
  exact this
 have hcp:=Kf0 (Kge b') (by rw [Kgf]; omega)
 have i2:idx x1.fneeds 1=some (u1:Int):=by rw [nb]; rfl
 have hle0:=sLe hs.tab hu0 hg
 have hle1:=sLe hs.tab hu1 hg
 have hf:=Kja (ty:=ty) (ks:=[k0,k1]) (ctx:=ctx) (z:=Kge (List.replicate ctx.length 0)) (y0:=y0) (y1:=y1) (us':=Kge []) (u:=[u0,u1]) hs hg (fun x hx=>by simp at hx; rcases hx with rfl | rfl; exact hu0; exact hu1) (by simp) ba bb' (by omega) (by omega) (by rw [r1.ty]; omega)
 simp only [List.all_cons,List.all_nil,Bool.and_true] at hf
 have es:=e1
 cases hal:(le s n u0 g && le s n u1 g) with
 | false =>
  rw [hal,if_neg (by decide)] at hf
  refine Kjf.bad (f:=9) (p:=[]) ?_ (Kim (by omega) hl0 hf) (by decide) (by simp; omega)
  rw [Kbx.eq_def]
  simp [e0,f0,i0,Kby.eq_def,hcg,hl2,hp0,hp1,hwc,e1,f1,i1,i2,hcut,hcp,hle0,hle1,Kbp]
  cases q1:le s n u1 g with
  | false=>simp
  | true=>rw [q1,Bool.and_true] at hal; simp [hal]
 | true =>
  rw [hal,if_pos rfl] at hf
  have im:=Kjx (q:=y1.fty) (ns:=Kgr s n (Kgs s n g a) b') (kids:=[y0,y1]) (by rw [r1.ty]; omega) (Kim (by omega) hl0 hf)
  rw [r1.ty] at im
  have lsc:(Kgs s n g a).length=ctx.length:=by unfold Kgs; rw [List.length_map]; exact la
  have hsc:=Kgy hs hg ba
  have hz0:=Kh1 hs hsc
  rw [lsc] at hz0
  have hsum:=Kh3 hs g hg (List.replicate ctx.length 0) a (fun x hx=>by rw [List.eq_of_mem_replicate hx]; exact Kgm hs) ba (by simp; omega) (by simp [la])
  rw [hz0] at hsum
  have hs2:=Kh4 hs (Kgs s n g a) b' hsc bb' (by omega) (by omega)
  refine Kjf.good (q:=x1.fty) (ns:=Kgr s n (Kgs s n g a) b') (kids:=[y0,y1]) ?_ im (by omega) g1 (by unfold Kgr; rw [List.length_zipWith]; omega) (Kgx hs hsc bb') rfl (kd2 (Kje.mk' (Kjm (by decide) rfl) r0 f0 (fun _ h=>by cases h) rfl) (Kje.mk' ad r1 f1 hm' rfl))
  rw [Kbx.eq_def]
  rw [Bool.and_eq_true] at hal
  simp [e0,f0,i0,Kby.eq_def,hcg,hl2,hp0,hp1,hwc,e1,f1,i1,i2,hcut,hcp,hle0,hle1,hal.1,hal.2,na,Khg ctx.length (by omega),hsum,hs2]
theorem Kkl (ih:Kjw s n (tsz (⟨12,N,ty,ks⟩:Kaw))) (h:tOk (gN s.fSize true) (yN s.fSize true) ctx.length ⟨12,N,ty,ks⟩=true) (hc:∀ q ∈ ctx,TyS s q) (hb:ctx.length + 2 * tsz (⟨12,N,ty,ks⟩:Kaw) ≤ 1000000):∃ x y,Kjf s n ctx ⟨12,N,ty,ks⟩ x y:=by
 obtain ⟨k0,k1,rfl,p0,p1⟩:=nd2 h (Nat.le_refl _) rfl
 have hz:=Kgb 12 N ty k0 k1
 obtain ⟨g,hN,hg⟩:=Ki4 hs (Ki6 h rfl)
 simp only at hN
 subst hN
 obtain ⟨x0,y0,r0⟩:=ih k0 ctx p0 hc (by omega)
 by_cases f0:x0.ffault=0
 rotate_left
 ·exact Kjy (by decide) (by decide) (by decide) hb r0 f0
 obtain ⟨g0,q0,a,na,la,ba⟩:=r0.gd f0
 obtain ⟨c0,t0,ht0,hn0,hz0⟩:=Kk1 hs g0
 have L0:=Khs g0
 have e0:Kbz (s,ctx,⟨12,(g:Int),ty,[k0,k1]⟩,0)=some x0:=Kjg (i:=0) rfl r0 f0
 have C:=Kki hs g0 ht0
 have i0:idx x0.fty 0=some c0:=by rw [ht0]; rfl
 by_cases z0:(Ke2 c0).1=4
 rotate_left
 ·have w0:Kdw c0=false:=by cases h:Kdw c0 with | true=>exact absurd (C.boxB.1 h) z0 | false=>rfl
  refine Kjf.bad (f:=7) (p:=[]) ?_ (Kil (by omega) (Kjj (m:=[]) rfl (Kjs (by decide)) r0 (by simp; omega) f0 (by rw [ht0,Kiv hs hg,if_neg z0]) (by decide))) (by decide) (by simp; omega)
  rw [Kbx.eq_def]
  simp [e0,f0,i0,Kby.eq_def,Kdz,w0,Kbp]
 obtain ⟨m,p,hm,h15,hcg,hq,P⟩:=C.box z0
 have w0:Kdw c0=true:=C.boxB.2 z0
 have hle:=sLe hs.tab (Kgl hs) hg
 cases hl:le s n 1 g with
 | false =>
  have hl2:Kb0 (s,1,(g:Int))=some false:=by rw [← hl]; exact hle
  refine Kjf.bad (f:=8) (p:=[]) ?_ (Kil (by omega) (Kjj (m:=[]) rfl (Kjs (by decide)) r0 (by simp; omega) f0 (by rw [ht0,Kiv hs hg,if_pos z0,hl]; rfl) (by decide))) (by decide) (by simp; omega)
  rw [Kbx.eq_def]
  simp [e0,f0,i0,Kby.eq_def,Kdz,w0,hl2,Kbp]
 | true =>
 have hl2:Kb0 (s,1,(g:Int))=some true:=by rw [← hl]; exact hle
 have o0:=Kjl (out:=[]) (nd:=[]) (us:=[]) (w:=0) (t:=⟨12,(g:Int),ty,[k0,k1]⟩) (m:=[]) rfl (Kjs (by decide)) r0 (by simp; omega) f0 (by rw [ht0,Kiv hs hg,if_pos z0,hl]; rfl) (Kin (show (12:Int) ≠ 10 by decide)) na (by simp <;> omega) (by simp) (by simp) (by simp) (by simp)
 have hp0:Kbf (x0.fty,0)=some p:=by rw [hq,hcg]; exact P.p0
 have ad:Kc1 (⟨12,(g:Int),ty,[k0,k1]⟩,((1:Nat):Int),y0.fty)=some [p]:=by rw [r0.ty,hq,hcg]; exact Kjr P
 have hm':∀ z ∈ [p],TyS s z:=fun z hz=>by simp at hz; rw [hz]; exact P.ya
 have hgr:Kb9 c0=some (m:Int):=by rw [hcg]; exact Kkg m h15
 have m1:Kia ⟨12,(g:Int),ty,[k0,k1]⟩ [y0] 1=some [p]:=Kju (by decide) ad
 have p1':Ki5 s ([p] ++ ctx).length k1 (tsz (⟨12,(g:Int),ty,[k0,k1]⟩:Kaw)):=by
  have e:([p] ++ ctx).length=ctx.length + Keo 12 1:=by simp [Keo]
  rw [e]; exact p1
 obtain ⟨x1,y1,r1⟩:=ih k1 ([p] ++ ctx) p1' (fun z hz=>by rcases List.mem_append.1 hz with hz | hz; exact hm' z hz; exact hc z hz) (by simp; omega)
 have hwc:=Khh ctx [p] (by simp; omega)
 by_cases f1:x1.ffault=0
 rotate_left
 ·have e1:Kbz (s,p :: ctx,⟨12,(g:Int),ty,[k0,k1]⟩,1)=some ⟨[],[],x1.ffault,1 :: x1.fpath⟩:=Kjh (i:=1) rfl r1 (by omega) f1
  refine Kjf.bad (f:=x1.ffault) (p:=1 :: x1.fpath) ?_ (Kil (by omega) (o0.trans (Kji (m:=[p]) rfl m1 r1 (by omega) (by simp; omega) f1))) f1 (by have:=r1.pl; simp; omega)
  rw [Kbx.eq_def]
  simp [e0,f0,i0,Kby.eq_def,Kdz,w0,hl2,hp0,hwc,e1,f1]
 obtain ⟨g1,q1,b,nb,lb,bb⟩:=r1.gd f1
 obtain ⟨c1,t1,ht1,hn1,hz1⟩:=Kk1 hs g1
 have L1:=Khs g1
 have e1:Kbz (s,p :: ctx,⟨12,(g:Int),ty,[k0,k1]⟩,1)=some x1:=Kjg (i:=1) rfl r1 f1
 have lb':b.length=ctx.length + 1:=by rw [lb]; simp
 obtain ⟨u0,b',rfl⟩:∃ u0 b',b=u0 :: b':=by match b,lb' with | u0 :: b',_=>exact ⟨u0,b',rfl⟩ | [],h=>simp at h
 obtain ⟨hu0,bb'⟩:=Kgv bb
 have o1:=Kjl (out:=[y0]) (nd:=[Kge a]) (us:=[Kge []]) (w:=1) (t:=⟨12,(g:Int),ty,[k0,k1]⟩) (m:=[p]) rfl m1 r1 (by simp; omega) f1 (by rw [ht1]; exact Kip (.inr (by decide))) (Kin (show (12:Int) ≠ 10 by decide)) nb (by simp <;> omega) (by simp) (by simp) (by simp) (by simp)
 simp only [List.length_cons,List.length_nil,Nat.zero_add,List.drop_succ_cons,List.drop_zero,List.take_succ_cons,List.take_zero,List.nil_append] at o1
 have hl0:=o0.trans (o1.trans (Kid (Nat.le_refl _)))
 have lbc:b'.length=ctx.length:=by simp at lb'; omega
 have i1:idx x1.fneeds 0=some (u0:Int):=by rw [nb]; rfl
 have hcut:cut x1.fneeds (some (1:Int)) none none=some (Kge b'):=by
  rw [nb]
  have:=Kif (l:=Kge (u0 :: b')) (m:=1) (by simp [Kge])
  exact this
 have hcp:=Kf0 (Kge b') (by rw [Kgf]; omega)
 have hmul:=Kd7 hs.tab hg hm
 have htm:=Kd2 hs.tab hg hm
 have hle0:=sLe hs.tab hu0 htm
 have hf:=Kjb (ty:=ty) (ks:=[k0,k1]) (ctx:=ctx) (z:=Kge (List.replicate ctx.length 0)) (y0:=y0) (y1:=y1) (us':=Kge []) (u:=[u0]) hs hg hm (p:=p) (by rw [r0.ty,hq,hcg]) (fun x hx=>by simp at hx; rw [hx]; exact hu0) (by simp) ba bb' (by omega) (by omega) (by rw [r1.ty]; omega)
 simp only [List.all_cons,List.all_nil,Bool.and_true] at hf
 have es:=e1
 cases hal:(le s n u0 (ti s n g m)) with
 | false =>
  rw [hal,if_neg (by decide)] at hf
  refine Kjf.bad (f:=9) (p:=[]) ?_ (Kim (by omega) hl0 hf) (by decide) (by simp; omega)
  rw [Kbx.eq_def]
  simp [e0,f0,i0,Kby.eq_def,Kdz,w0,hl2,hp0,hwc,e1,f1,i1,hcut,hcp,hgr,hmul,hle0,hal,Kbp]
 | true =>
  rw [hal,if_pos rfl] at hf
  have im:=Kjx (q:=y1.fty) (ns:=Kgr s n (Kgs s n g a) b') (kids:=[y0,y1]) (by rw [r1.ty]; omega) (Kim (by omega) hl0 hf)
  rw [r1.ty] at im
  have lsc:(Kgs s n g a).length=ctx.length:=by unfold Kgs; rw [List.length_map]; exact la
  have hsc:=Kgy hs hg ba
  have hz0:=Kh1 hs hsc
  rw [lsc] at hz0
  have hsum:=Kh3 hs g hg (List.replicate ctx.length 0) a (fun x hx=>by rw [List.eq_of_mem_replicate hx]; exact Kgm hs) ba (by simp; omega) (by simp [la])
  rw [hz0] at hsum
  have hs2:=Kh4 hs (Kgs s n g a) b' hsc bb' (by omega) (by omega)
  refine Kjf.good (q:=x1.fty) (ns:=Kgr s n (Kgs s n g a) b') (kids:=[y0,y1]) ?_ im (by omega) g1 (by unfold Kgr; rw [List.length_zipWith]; omega) (Kgx hs hsc bb') rfl (kd2 (Kje.mk' (Kjm (by decide) rfl) r0 f0 (fun _ h=>by cases h) rfl) (Kje.mk' ad r1 f1 hm' rfl))
  rw [Kbx.eq_def]
  simp [e0,f0,i0,Kby.eq_def,Kdz,w0,hl2,hp0,hwc,e1,f1,i1,hcut,hcp,hgr,hmul,hle0,hal,na,Khg ctx.length (by omega),hsum,hs2]
theorem Kkm (ih:Kjw s n (tsz (⟨8,N,ty,ks⟩:Kaw))) (h:tOk (gN s.fSize true) (yN s.fSize true) ctx.length ⟨8,N,ty,ks⟩=true) (hc:∀ q ∈ ctx,TyS s q) (hb:ctx.length + 2 * tsz (⟨8,N,ty,ks⟩:Kaw) ≤ 1000000):∃ x y,Kjf s n ctx ⟨8,N,ty,ks⟩ x y:=by
 obtain ⟨k0,k1,k2,rfl,p0,p1,p2⟩:=nd3 h (Nat.le_refl _) rfl
 have hz:=Kgc 8 N ty k0 k1 k2
 obtain ⟨g,hN,hg⟩:=Ki4 hs (Ki6 h rfl)
 simp only at hN
 subst hN
 obtain ⟨x0,y0,r0⟩:=ih k0 ctx p0 hc (by omega)
 by_cases f0:x0.ffault=0
 rotate_left
 ·exact Kjy (by decide) (by decide) (by decide) hb r0 f0
 obtain ⟨g0,q0,a,na,la,ba⟩:=r0.gd f0
 obtain ⟨c0,t0,ht0,hn0,hz0⟩:=Kk1 hs g0
 have L0:=Khs g0
 have e0:Kbz (s,ctx,⟨8,(g:Int),ty,[k0,k1,k2]⟩,0)=some x0:=Kjg (i:=0) rfl r0 f0
 have C:=Kki hs g0 ht0
 have i0:idx x0.fty 0=some c0:=by rw [ht0]; rfl
 by_cases z0:(Ke2 c0).1=2
 rotate_left
 ·have w0:c0 ≠ 2:=fun h=>z0 (C.two.1 h)
  refine Kjf.bad (f:=5) (p:=[]) ?_ (Kil (by omega) (Kjj (m:=[]) rfl (Kjs (by decide)) r0 (by simp; omega) f0 (by rw [ht0,Kiu hs hg,if_neg z0]) (by decide))) (by decide) (by simp; omega)
  rw [Kbx.eq_def]
  simp [e0,f0,i0,Kby.eq_def,w0,Kbp]
 obtain ⟨p,q,hcg,hq,P⟩:=C.sum z0
 have hle:=sLe hs.tab (Kgl hs) hg
 cases hl:le s n 1 g with
 | false =>
  have hl2:Kb0 (s,1,(g:Int))=some false:=by rw [← hl]; exact hle
  refine Kjf.bad (f:=8) (p:=[]) ?_ (Kil (by omega) (Kjj (m:=[]) rfl (Kjs (by decide)) r0 (by simp; omega) f0 (by rw [ht0,Kiu hs hg,if_pos z0,hl]; rfl) (by decide))) (by decide) (by simp; omega)
  rw [Kbx.eq_def]
  simp [e0,f0,i0,Kby.eq_def,hcg,hl2,Kbp]
 | true =>
 have hl2:Kb0 (s,1,(g:Int))=some true:=by rw [← hl]; exact hle
 have o0:=Kjl (out:=[]) (nd:=[]) (us:=[]) (w:=0) (t:=⟨8,(g:Int),ty,[k0,k1,k2]⟩) (m:=[]) rfl (Kjs (by decide)) r0 (by simp; omega) f0 (by rw [ht0,Kiu hs hg,if_pos z0,hl]; rfl) (Kin (show (8:Int) ≠ 10 by decide)) na (by simp <;> omega) (by simp) (by simp) (by simp) (by simp)
 have hp0:Kbf (x0.fty,0)=some p:=by rw [hq,hcg]; exact P.p0
 have hp1:Kbf (x0.fty,1)=some q:=by rw [hq,hcg]; exact P.p1
 have ad1:Kc1 (⟨8,(g:Int),ty,[k0,k1,k2]⟩,((1:Nat):Int),y0.fty)=some [p]:=by rw [r0.ty,hq,hcg]; exact Kjp P
 have ad2:Kc1 (⟨8,(g:Int),ty,[k0,k1,k2]⟩,((2:Nat):Int),y0.fty)=some [q]:=by rw [r0.ty,hq,hcg]; exact Kjq P
 have hm1:∀ z ∈ [p],TyS s z:=fun z hz=>by simp at hz; rw [hz]; exact P.ya
 have hm2:∀ z ∈ [q],TyS s z:=fun z hz=>by simp at hz; rw [hz]; exact P.yb
 have m1:Kia ⟨8,(g:Int),ty,[k0,k1,k2]⟩ [y0] 1=some [p]:=Kju (by decide) ad1
 have p1':Ki5 s ([p] ++ ctx).length k1 (tsz (⟨8,(g:Int),ty,[k0,k1,k2]⟩:Kaw)):=by
  have e:([p] ++ ctx).length=ctx.length + Keo 8 1:=by simp [Keo]
  rw [e]; exact p1
 obtain ⟨x1,y1,r1⟩:=ih k1 ([p] ++ ctx) p1' (fun z hz=>by rcases List.mem_append.1 hz with hz | hz; exact hm1 z hz; exact hc z hz) (by simp; omega)
 have hw1:=Khh ctx [p] (by simp; omega)
 by_cases f1:x1.ffault=0
 rotate_left
 ·have e1:Kbz (s,p :: ctx,⟨8,(g:Int),ty,[k0,k1,k2]⟩,1)=some ⟨[],[],x1.ffault,1 :: x1.fpath⟩:=Kjh (i:=1) rfl r1 (by omega) f1
  refine Kjf.bad (f:=x1.ffault) (p:=1 :: x1.fpath) ?_ (Kil (by omega) (o0.trans (Kji (m:=[p]) rfl m1 r1 (by omega) (by simp; omega) f1))) f1 (by have:=r1.pl; simp; omega)
  rw [Kbx.eq_def]
  simp [e0,f0,i0,Kby.eq_def,hcg,hl2,hp0,hp1,hw1,e1,f1]
 obtain ⟨g1,q1,b,nb,lb,bb⟩:=r1.gd f1
 obtain ⟨c1,t1,ht1,hn1,hz1⟩:=Kk1 hs g1
 have L1:=Khs g1
 have e1:Kbz (s,p :: ctx,⟨8,(g:Int),ty,[k0,k1,k2]⟩,1)=some x1:=Kjg (i:=1) rfl r1 f1
 have lb':b.length=ctx.length + 1:=by rw [lb]; simp
 obtain ⟨u0,b',rfl⟩:∃ u0 b',b=u0 :: b':=by match b,lb' with | u0 :: b',_=>exact ⟨u0,b',rfl⟩ | [],h=>simp at h
 obtain ⟨hu0,bb'⟩:=Kgv bb
 have lbc:b'.length=ctx.length:=by simp at lb'; omega
 have i1:idx x1.fneeds 0=some (u0:Int):=by rw [nb]; rfl
 have hcut1:cut x1.fneeds (some (1:Int)) none none=some (Kge b'):=by rw [nb]; exact Kfx _ _
 have hcp1:=Kf0 (Kge b') (by rw [Kgf]; omega)
 have o1:=Kjl (out:=[y0]) (nd:=[Kge a]) (us:=[Kge []]) (w:=1) (t:=⟨8,(g:Int),ty,[k0,k1,k2]⟩) (m:=[p]) rfl m1 r1 (by simp; omega) f1 (by rw [ht1]; exact Kip (.inr (by decide))) (Kin (show (8:Int) ≠ 10 by decide)) nb (by simp <;> omega) (by simp) (by simp) (by simp) (by simp)
 simp only [List.length_cons,List.length_nil,Nat.zero_add,List.drop_succ_cons,List.drop_zero,List.take_succ_cons,List.take_zero,List.nil_append,List.cons_append] at o1
 have m2:Kia ⟨8,(g:Int),ty,[k0,k1,k2]⟩ [y0,y1] 2=some [q]:=Kju (by decide) ad2
 have p2':Ki5 s ([q] ++ ctx).length k2 (tsz (⟨8,(g:Int),ty,[k0,k1,k2]⟩:Kaw)):=by
  have e:([q] ++ ctx).length=ctx.length + Keo 8 2:=by simp [Keo]
  rw [e]; exact p2
 obtain ⟨x2,y2,r2⟩:=ih k2 ([q] ++ ctx) p2' (fun z hz=>by rcases List.mem_append.1 hz with hz | hz; exact hm2 z hz; exact hc z hz) (by simp; omega)
 have hw2:=Khh ctx [q] (by simp; omega)
 by_cases f2:x2.ffault=0
 rotate_left
 ·have e2:Kbz (s,q :: ctx,⟨8,(g:Int),ty,[k0,k1,k2]⟩,2)=some ⟨[],[],x2.ffault,2 :: x2.fpath⟩:=Kjh (i:=2) rfl r2 (by omega) f2
  refine Kjf.bad (f:=x2.ffault) (p:=2 :: x2.fpath) ?_ (Kil (by omega) (o0.trans (o1.trans (Kji (m:=[q]) rfl m2 r2 (by omega) (by simp; omega) f2)))) f2 (by have:=r2.pl; simp; omega)
  rw [Kbx.eq_def]
  simp [e0,f0,i0,Kby.eq_def,hcg,hl2,hp0,hp1,hw1,e1,f1,hcut1,hcp1,hw2,e2,f2]
 obtain ⟨g2,q2,d,nd,ld,bd⟩:=r2.gd f2
 obtain ⟨c2,t2,ht2,hn2,hz2⟩:=Kk1 hs g2
 have L2:=Khs g2
 have e2:Kbz (s,q :: ctx,⟨8,(g:Int),ty,[k0,k1,k2]⟩,2)=some x2:=Kjg (i:=2) rfl r2 f2
 have ld':d.length=ctx.length + 1:=by rw [ld]; simp
 obtain ⟨v0,d',rfl⟩:∃ v0 d',d=v0 :: d':=by match d,ld' with | v0 :: d',_=>exact ⟨v0,d',rfl⟩ | [],h=>simp at h
 obtain ⟨hv0,bd'⟩:=Kgv bd
 have ldc:d'.length=ctx.length:=by simp at ld'; omega
 have i2:idx x2.fneeds 0=some (v0:Int):=by rw [nd]; rfl
 have hcut2:cut x2.fneeds (some (1:Int)) none none=some (Kge d'):=by rw [nd]; exact Kfx _ _
 have o2:=Kjl (out:=[y0,y1]) (nd:=[Kge a,Kge b']) (us:=[Kge [],Kge [u0]]) (w:=2) (t:=⟨8,(g:Int),ty,[k0,k1,k2]⟩) (m:=[q]) rfl m2 r2 (by simp; omega) f2 (by rw [ht2]; exact Kip (.inr (by decide))) (Kin (show (8:Int) ≠ 10 by decide)) nd (by simp <;> omega) (by simp) (by simp) (by simp) (by simp)
 simp only [List.length_cons,List.length_nil,Nat.zero_add,List.drop_succ_cons,List.drop_zero,List.take_succ_cons,List.take_zero,List.nil_append,List.cons_append] at o2
 have hl0:=o0.trans (o1.trans (o2.trans (Kid (Nat.le_refl _))))
 have hle0:=sLe hs.tab hu0 hg
 have hle1:=sLe hs.tab hv0 hg
 have hf:=Kjc (ty:=ty) (ks:=[k0,k1,k2]) (ctx:=ctx) (z:=Kge (List.replicate ctx.length 0)) (y0:=y0) (y1:=y1) (y2:=y2) (us':=Kge []) (u:=[u0]) (v:=[v0]) hs hg (fun x hx=>by simp at hx; rw [hx]; exact hu0) (by simp) (fun x hx=>by simp at hx; rw [hx]; exact hv0) (by simp) ba bb' bd' (by omega) (by omega) (by omega) (by rw [r2.ty]; omega) (by rw [r1.ty]; omega)
 simp only [List.all_cons,List.all_nil,Bool.and_true] at hf
 rw [r1.ty,r2.ty] at hf
 have hsm:=Kg4 x1.fty x2.fty (by omega)
 have hj:=Kh6 hs b' d' bb' bd' (by omega) (by omega)
 have lj:(Kgt s n b' d').length=ctx.length:=by unfold Kgt; rw [List.length_zipWith]; omega
 by_cases hqq:x1.fty=x2.fty
 rotate_left
 ·rw [if_neg hqq] at hf
  rw [show (x1.fty == x2.fty)=false from beq_eq_false_iff_ne.2 hqq] at hsm
  refine Kjf.bad (f:=3) (p:=[]) ?_ (Kim (by omega) hl0 hf) (by decide) (by simp; omega)
  rw [Kbx.eq_def]
  simp [e0,f0,i0,Kby.eq_def,hcg,hl2,hp0,hp1,hw1,e1,f1,hcut1,hcp1,hw2,e2,f2,hsm,Kbp]
 rw [if_pos hqq] at hf
 rw [show (x1.fty == x2.fty)=true from beq_iff_eq.2 hqq] at hsm
 by_cases hal:le s n u0 g=true∧le s n v0 g=true
 rotate_left
 ·rw [if_neg hal] at hf
  refine Kjf.bad (f:=9) (p:=[]) ?_ (Kim (by omega) hl0 hf) (by decide) (by simp; omega)
  rw [Kbx.eq_def]
  simp [e0,f0,i0,Kby.eq_def,hcg,hl2,hp0,hp1,hw1,e1,f1,hcut1,hcp1,hw2,e2,f2,hsm,i1,i2,hle0,hle1,hcut2,hj,Kbp]
  cases q1:le s n v0 g with
  | false=>simp
  | true =>
   cases q2:le s n u0 g with
   | false=>simp
   | true=>exact absurd ⟨q2,q1⟩ hal
 rw [if_pos hal] at hf
 have im:=Kjx (q:=x1.fty) (ns:=Kgr s n (Kgs s n g a) (Kgt s n b' d')) (kids:=[y0,y1,y2]) (by omega) (Kim (by omega) hl0 hf)
 have lsc:(Kgs s n g a).length=ctx.length:=by unfold Kgs; rw [List.length_map]; exact la
 have hsc:=Kgy hs hg ba
 have hz0:=Kh1 hs hsc
 rw [lsc] at hz0
 have hsum:=Kh3 hs g hg (List.replicate ctx.length 0) a (fun x hx=>by rw [List.eq_of_mem_replicate hx]; exact Kgm hs) ba (by simp; omega) (by simp [la])
 rw [hz0] at hsum
 have hs2:=Kh4 hs (Kgs s n g a) (Kgt s n b' d') hsc (Kgz hs bb' bd') (by omega) (by omega)
 refine Kjf.good (q:=x1.fty) (ns:=Kgr s n (Kgs s n g a) (Kgt s n b' d')) (kids:=[y0,y1,y2]) ?_ im (by omega) g1 (by unfold Kgr; rw [List.length_zipWith]; omega) (Kgx hs hsc (Kgz hs bb' bd')) rfl (kd3 (Kje.mk' (Kjm (by decide) rfl) r0 f0 (fun _ h=>by cases h) rfl) (Kje.mk' ad1 r1 f1 hm1 rfl) (Kje.mk' ad2 r2 f2 hm2 rfl))
 rw [Kbx.eq_def]
 simp [e0,f0,i0,Kby.eq_def,hcg,hl2,hp0,hp1,hw1,e1,f1,hcut1,hcp1,hw2,e2,f2,hsm,i1,i2,hle0,hle1,hal.1,hal.2,hcut2,hj,na,Khg ctx.length (by omega),hsum,hs2]
theorem Kkn:∀ (m:Nat) (t:Kaw) (ctx:List (List Int)),tsz t ≤ m→tOk (gN s.fSize true) (yN s.fSize true) ctx.length t=true→(∀ q ∈ ctx,TyS s q)→ctx.length + 2 * tsz t ≤ 1000000→∃ x y,Kjf s n ctx t x y
 | 0,t,ctx,hm,_,_,_=>by obtain ⟨op,N,ty,ks⟩:=t; rw [tsz] at hm; omega
 | m + 1,t,ctx,hm,h,hc,hb=>by
  have ih:Kjw s n (tsz t):=fun k c hk hc hb=>Kkn m k c (by have:=hk.sz; omega) hk.ok hc hb
  obtain ⟨op,N,ty,ks⟩:=t
  have hop:=(Kez (Kex h).1).1
  simp only at hop
  rcases Ken hop with rfl | rfl | rfl | rfl | rfl | rfl | rfl | rfl | rfl | rfl | rfl | rfl | rfl
  ·exact Kjz hs rfl h hc hb
  ·exact Kk0 hs rfl h hb
  ·exact Kk7 hs ih h hc hb
  ·exact Kk8 hs ih h hc hb
  ·exact Kk6 hs ih h hc hb
  ·exact Kkk hs ih h hc hb
  ·exact Kk2 hs ih h hc hb
  ·exact Kk3 hs ih h hc hb
  ·exact Kkm hs ih h hc hb
  ·exact Kk5 hs ih h hc hb
  ·exact Kkj hs ih h hc hb
  ·exact Kk4 hs ih h hc hb
  ·exact Kkl hs ih h hc hb
end
def Gv {α:Type} (x:Option α) (Q:α→Prop):Prop:=∃ a,x=some a∧Q a
theorem Gv.bind {α β:Type} {x:Option α} {f:α→Option β} {Q:α→Prop} {R:β→Prop} (h:Gv x Q) (hf:∀ a,Q a→Gv (f a) R):Gv (x >>= f) R:=by
 obtain ⟨a,rfl,hq⟩:=h
 exact hf a hq
def Kko (n a b:Nat):Int:=((min (a + b) (n + 1):Nat):Int)
def Kkp (n a b:Nat):Int:=((min (a * b) (n + 1):Nat):Int)
def Kkq (n:Nat) (bd:Bool) (a b:Nat):Bool:=(a == b) || (b == n + 1) || (bd && decide (a ≤ b))
def Kkr (n:Nat) (bd:Bool):K00:=⟨((n + 2:Nat):Int),(List.range' 0 (n + 2)).flatMap (fun a=>(List.range' 0 (n + 2)).map (Kko n a)),(List.range' 0 (n + 2)).flatMap (fun a=>(List.range' 0 (n + 2)).map (Kkp n a)),(List.range' 0 (n + 2)).flatMap (fun a=>(List.range' 0 (n + 2)).map (Kkq n bd a))⟩
def Kks (n a:Nat):Nat:=(n + 1 - a) % (n + 1)
def Kkt (n a b:Nat):Int:=(((n + 1 - max (Kks n a) (Kks n b)) % (n + 1):Nat):Int)
def Kku (n a b:Nat):Int:=(((n + 1 - min (Kks n a) (Kks n b)) % (n + 1):Nat):Int)
def Kkv (n a b:Nat):Bool:=decide (Kks n a ≤ Kks n b)
def Kkw (n:Nat):K00:=⟨((n + 1:Nat):Int),(List.range' 0 (n + 1)).flatMap (fun a=>(List.range' 0 (n + 1)).map (Kkt n a)),(List.range' 0 (n + 1)).flatMap (fun a=>(List.range' 0 (n + 1)).map (Kku n a)),(List.range' 0 (n + 1)).flatMap (fun a=>(List.range' 0 (n + 1)).map (Kkv n a))⟩
theorem Kkx (n a:Nat):Kks n a ≤ n:=by
 have:=Nat.mod_lt (n + 1 - a) (show 0 < n + 1 by omega)
 unfold Kks
 omega
def Kky (n g:Nat):Nat:=if g=0 then 0 else if g=1 then 1 else if g ≤ n + 1 then (g - 1) / n else g / n
def Kkz (n g:Nat):Nat:=if g < 2 then g else if g ≤ n + 1 then (g - 1) % n else g % n
def Kl0 (n x y:Nat):Nat:=if x * n + y=0 then 0 else if x * n + y=n + 1 then 1 else if x * n + y < n + 1 then x * n + y + 1 else x * n + y
theorem Kl1 {m n g:Nat} (hm:2 ≤ m) (hn:2 ≤ n) (h:g < m * n):Kky n g < m:=by
 unfold Kky
 split
 ·omega
 split
 ·omega
 split
 ·refine Nat.div_lt_of_lt_mul ?_
  rw [Nat.mul_comm]; omega
 ·exact Nat.div_lt_of_lt_mul (by rw [Nat.mul_comm]; exact h)
theorem Kl2 {n g:Nat} (hn:2 ≤ n):Kkz n g < n:=by
 unfold Kkz
 split
 ·omega
 split
 ·exact Nat.mod_lt _ (by omega)
 ·exact Nat.mod_lt _ (by omega)
def Kl3 (a b:K00) (m n g h:Nat):Int:=((Kl0 n (pl a m (Kky n g) (Kky n h)) (pl b n (Kkz n g) (Kkz n h)):Nat):Int)
def Kl4 (a b:K00) (m n g h:Nat):Int:=((Kl0 n (ti a m (Kky n g) (Kky n h)) (ti b n (Kkz n g) (Kkz n h)):Nat):Int)
def Kl5 (a b:K00) (m n g h:Nat):Bool:=le a m (Kky n g) (Kky n h) && le b n (Kkz n g) (Kkz n h)
def Kl6 (a b:K00) (m n:Nat):K00:=⟨((m * n:Nat):Int),(List.range' 0 (m * n)).flatMap (fun g=>(List.range' 0 (m * n)).map (Kl3 a b m n g)),(List.range' 0 (m * n)).flatMap (fun g=>(List.range' 0 (m * n)).map (Kl4 a b m n g)),(List.range' 0 (m * n)).flatMap (fun g=>(List.range' 0 (m * n)).map (Kl5 a b m n g))⟩
theorem Kl7 {m n:Nat} (hm:2 ≤ m) (hn:2 ≤ n) (hmn:m * n ≤ 16):m ≤ 16∧n ≤ 16:=⟨Nat.le_trans (Nat.le_mul_of_pos_right m (by omega)) hmn,Nat.le_trans (Nat.le_mul_of_pos_left n (by omega)) hmn⟩
theorem iC1 (n a b:Nat) (hn:n ≤ 14) (ha:a ≤ n + 1) (hb:b ≤ n + 1):K3b ((a:Int),(b:Int),((n + 1:Nat):Int))=some (Kko n a b):=by
 unfold K3b Kko mnx
 simp only
 rw [Kfu (by omega) (by omega),cond_false]
 congr 1
 split <;> omega
theorem iC2 (n a b:Nat) (hn:n ≤ 14) (ha:a ≤ n + 1) (hb:b ≤ n + 1):K3e ((a:Int),(b:Int),((n + 1:Nat):Int))=some (Kkp n a b):=by
 have hab:a * b ≤ 16 * 16:=Nat.mul_le_mul (by omega) (by omega)
 have e2:wr ((a:Int) * (b:Int))=((a * b:Nat):Int):=by rw [← Int.natCast_mul,Kct (by omega) (by omega)]
 unfold K3e Kkp
 simp only
 by_cases h1:a=0
 ·subst h1; simp [bs]
 rw [if_neg (by simpa using h1),bs]
 by_cases h2:b=0
 ·subst h2; simp [bs]
 rw [if_neg (by simpa using h2)]
 by_cases h3:a=n + 1
 ·have:n + 1 ≤ a * b:=h3 ▸ Nat.le_mul_of_pos_right a (by omega)
  rw [if_pos (by simp [h3]),bs,if_pos rfl,Nat.min_eq_right this]
 rw [if_neg (by simp; omega),bs]
 by_cases h4:b=n + 1
 ·have:n + 1 ≤ a * b:=h4 ▸ Nat.le_mul_of_pos_left b (by omega)
  rw [if_pos (by simp [h4]),Nat.min_eq_right this]
 rw [if_neg (by simp; omega),e2]
 unfold mnx
 rw [cond_false]
 congr 1
 split <;> omega
theorem iBb (n a b:Nat) (ha:a ≤ n + 1):K3h ((a:Int),(b:Int))=some (Kkq n true a b):=by
 unfold K3h Kkq
 simp only
 congr 1
 by_cases h:a ≤ b
 ·rw [decide_eq_true (by omega),decide_eq_true h]; simp
 ·rw [decide_eq_false (by omega),decide_eq_false h]
  have h1:(a == b)=false:=by simp; omega
  have h2:(b == n + 1)=false:=by simp; omega
  rw [h1,h2]; rfl
theorem iCb (n a b:Nat) (hn:n ≤ 14):K41 ((a:Int),(b:Int),(n:Int))=some (Kkq n false a b):=by
 unfold K41 Kkq
 simp only
 rw [Kcv (by omega)]
 by_cases h1:a=b
 ·rw [if_pos (by simp [h1]),bs]; simp [h1]
 ·rw [if_neg (by simp; omega),bs]
  by_cases h2:b=n + 1
  ·simp [h2]
  ·have q1:(a == b)=false:=by simpa using h1
   have q2:(b == n + 1)=false:=by simpa using h2
   have q3:((b:Int) == ((n + 1:Nat):Int))=false:=by simp; omega
   rw [q1,q2,q3]; rfl
theorem iL1 (n g:Nat) (hn:n ≤ 15) (hg:g ≤ n):K4l ((g:Int),(n:Int))=some ((Kks n g:Nat):Int):=by
 unfold K4l Kks
 simp only
 by_cases h:g=0
 ·subst h; rw [if_pos (by rfl),Nat.sub_zero,Nat.mod_self]; rfl
 ·rw [if_neg (by simpa using h),Kcv (by omega),Kct (by omega) (by omega),Nat.mod_eq_of_lt (by omega)]
  congr 1; omega
theorem Kl8 (a b:Nat):mnx true (a:Int) (b:Int)=((max a b:Nat):Int):=by unfold mnx; rw [cond_true]; split <;> omega
theorem Kl9 (a b:Nat):mnx false (a:Int) (b:Int)=((min a b:Nat):Int):=by unfold mnx; rw [cond_false]; split <;> omega
theorem iL2 (n a b:Nat) (hn:n ≤ 15) (ha:a ≤ n) (hb:b ≤ n):K4o ((a:Int),(b:Int),(n:Int))=some (Kkt n a b):=by
 have m1:=Kkx n a
 have m2:=Kkx n b
 unfold K4o
 simp only
 rw [iL1 n a hn ha,bs,iL1 n b hn hb,bs,Kl8,iL1 n _ hn (by omega),bs]
 rfl
theorem iL3 (n a b:Nat) (hn:n ≤ 15) (ha:a ≤ n) (hb:b ≤ n):K4r ((a:Int),(b:Int),(n:Int))=some (Kku n a b):=by
 have m1:=Kkx n a
 have m2:=Kkx n b
 unfold K4r
 simp only
 rw [iL1 n a hn ha,bs,iL1 n b hn hb,bs,Kl9,iL1 n _ hn (by omega),bs]
 rfl
theorem iL4 (n a b:Nat) (hn:n ≤ 15) (ha:a ≤ n) (hb:b ≤ n):K4u ((a:Int),(b:Int),(n:Int))=some (Kkv n a b):=by
 unfold K4u
 simp only
 rw [iL1 n a hn ha,bs,iL1 n b hn hb,bs]
 unfold Kkv
 congr 1
 simp
theorem Kla (n a:Nat) (hn:n ≤ 14) (ha:a ≤ n + 1):∀ (k b:Nat) (P T:List Int) (B:List Bool),b + k=n + 2→P.length + k ≤ 1000000→T.length + k ≤ 1000000→B.length + k ≤ 1000000 →
  K3l (((n + 2:Nat):Int),((n + 1:Nat):Int),((n + 1:Nat):Int),(a:Int),P,T,B,(b:Int))=some (P ++ (List.range' b k).map (Kko n a),T ++ (List.range' b k).map (Kkp n a),B ++ (List.range' b k).map (Kkq n true a)):=by
 intro k
 induction k with
 | zero =>
  intro b P T B hb _ _ _
  rw [K3l.eq_def]
  simp only
  rw [Kcx (by omega),if_neg (by decide)]
  simp
 | succ k ih =>
  intro b P T B hb h4 h5 h6
  rw [K3l.eq_def]
  simp only
  rw [Kcw (by omega),if_pos rfl,iC1 n a b hn ha (by omega),bs,Key (by simp; omega),bs,iC2 n a b hn ha (by omega),bs,Key (by simp; omega),bs,iBb n a b ha,bs,Key (by simp; omega),bs,Kcv (by omega),ih (b + 1) _ _ _ (by omega) (by simp; omega) (by simp; omega) (by simp; omega)]
  simp [List.range'_succ]
theorem Klb (n:Nat) (hn:n ≤ 14):∀ (k a:Nat) (P T:List Int) (B:List Bool),a + k=n + 2→P.length + k * 16 ≤ 10000→T.length + k * 16 ≤ 10000→B.length + k * 16 ≤ 10000 →
  K3p (((n + 2:Nat):Int),((n + 1:Nat):Int),((n + 1:Nat):Int),P,T,B,(a:Int))=some (P ++ (List.range' a k).flatMap (fun a=>(List.range' 0 (n + 2)).map (Kko n a)),T ++ (List.range' a k).flatMap (fun a=>(List.range' 0 (n + 2)).map (Kkp n a)),B ++ (List.range' a k).flatMap (fun a=>(List.range' 0 (n + 2)).map (Kkq n true a))):=by
 intro k
 induction k with
 | zero =>
  intro a P T B hb _ _ _
  rw [K3p.eq_def]
  simp only
  rw [Kcx (by omega),if_neg (by decide)]
  simp
 | succ k ih =>
  intro a P T B hb h1 h2 h3
  rw [K3p.eq_def]
  simp only
  rw [Kcw (by omega),if_pos rfl,show (0:Int)=((0:Nat):Int) from rfl,Kla n a hn (by omega) (n + 2) 0 P T B (by omega) (by omega) (by omega) (by omega),bs]
  simp only
  rw [Kcv (by omega),ih (a + 1) _ _ _ (by omega) (by simp; omega) (by simp; omega) (by simp; omega)]
  simp [List.range'_succ,List.flatMap_cons]
theorem Klc (n a:Nat) (hn:n ≤ 14) (ha:a ≤ n + 1):∀ (k b:Nat) (P T:List Int) (B:List Bool),b + k=n + 2→P.length + k ≤ 1000000→T.length + k ≤ 1000000→B.length + k ≤ 1000000 →
  K45 (((n + 2:Nat):Int),((n + 1:Nat):Int),((n + 1:Nat):Int),(n:Int),(a:Int),P,T,B,(b:Int))=some (P ++ (List.range' b k).map (Kko n a),T ++ (List.range' b k).map (Kkp n a),B ++ (List.range' b k).map (Kkq n false a)):=by
 intro k
 induction k with
 | zero =>
  intro b P T B hb _ _ _
  rw [K45.eq_def]
  simp only
  rw [Kcx (by omega),if_neg (by decide)]
  simp
 | succ k ih =>
  intro b P T B hb h4 h5 h6
  rw [K45.eq_def]
  simp only
  rw [Kcw (by omega),if_pos rfl,iC1 n a b hn ha (by omega),bs,Key (by simp; omega),bs,iC2 n a b hn ha (by omega),bs,Key (by simp; omega),bs,iCb n a b hn,bs,Key (by simp; omega),bs,Kcv (by omega),ih (b + 1) _ _ _ (by omega) (by simp; omega) (by simp; omega) (by simp; omega)]
  simp [List.range'_succ]
theorem Kld (n:Nat) (hn:n ≤ 14):∀ (k a:Nat) (P T:List Int) (B:List Bool),a + k=n + 2→P.length + k * 16 ≤ 10000→T.length + k * 16 ≤ 10000→B.length + k * 16 ≤ 10000 →
  K49 (((n + 2:Nat):Int),((n + 1:Nat):Int),((n + 1:Nat):Int),(n:Int),P,T,B,(a:Int))=some (P ++ (List.range' a k).flatMap (fun a=>(List.range' 0 (n + 2)).map (Kko n a)),T ++ (List.range' a k).flatMap (fun a=>(List.range' 0 (n + 2)).map (Kkp n a)),B ++ (List.range' a k).flatMap (fun a=>(List.range' 0 (n + 2)).map (Kkq n false a))):=by
 intro k
 induction k with
 | zero =>
  intro a P T B hb _ _ _
  rw [K49.eq_def]
  simp only
  rw [Kcx (by omega),if_neg (by decide)]
  simp
 | succ k ih =>
  intro a P T B hb h1 h2 h3
  rw [K49.eq_def]
  simp only
  rw [Kcw (by omega),if_pos rfl,show (0:Int)=((0:Nat):Int) from rfl,Klc n a hn (by omega) (n + 2) 0 P T B (by omega) (by omega) (by omega) (by omega),bs]
  simp only
  rw [Kcv (by omega),ih (a + 1) _ _ _ (by omega) (by simp; omega) (by simp; omega) (by simp; omega)]
  simp [List.range'_succ,List.flatMap_cons]
theorem Kle (n a:Nat) (hn:n ≤ 15) (ha:a ≤ n):∀ (k b:Nat) (P T:List Int) (B:List Bool),b + k=n + 1→P.length + k ≤ 1000000→T.length + k ≤ 1000000→B.length + k ≤ 1000000 →
  K4y (((n + 1:Nat):Int),(n:Int),(n:Int),(n:Int),(a:Int),P,T,B,(b:Int))=some (P ++ (List.range' b k).map (Kkt n a),T ++ (List.range' b k).map (Kku n a),B ++ (List.range' b k).map (Kkv n a)):=by
 intro k
 induction k with
 | zero =>
  intro b P T B hb _ _ _
  rw [K4y.eq_def]
  simp only
  rw [Kcx (by omega),if_neg (by decide)]
  simp
 | succ k ih =>
  intro b P T B hb h4 h5 h6
  rw [K4y.eq_def]
  simp only
  rw [Kcw (by omega),if_pos rfl,iL2 n a b hn ha (by omega),bs,Key (by simp; omega),bs,iL3 n a b hn ha (by omega),bs,Key (by simp; omega),bs,iL4 n a b hn ha (by omega),bs,Key (by simp; omega),bs,Kcv (by omega),ih (b + 1) _ _ _ (by omega) (by simp; omega) (by simp; omega) (by simp; omega)]
  simp [List.range'_succ]
theorem Klf (n:Nat) (hn:n ≤ 15):∀ (k a:Nat) (P T:List Int) (B:List Bool),a + k=n + 1→P.length + k * 16 ≤ 10000→T.length + k * 16 ≤ 10000→B.length + k * 16 ≤ 10000 →
  K52 (((n + 1:Nat):Int),(n:Int),(n:Int),(n:Int),P,T,B,(a:Int))=some (P ++ (List.range' a k).flatMap (fun a=>(List.range' 0 (n + 1)).map (Kkt n a)),T ++ (List.range' a k).flatMap (fun a=>(List.range' 0 (n + 1)).map (Kku n a)),B ++ (List.range' a k).flatMap (fun a=>(List.range' 0 (n + 1)).map (Kkv n a))):=by
 intro k
 induction k with
 | zero =>
  intro a P T B hb _ _ _
  rw [K52.eq_def]
  simp only
  rw [Kcx (by omega),if_neg (by decide)]
  simp
 | succ k ih =>
  intro a P T B hb h1 h2 h3
  rw [K52.eq_def]
  simp only
  rw [Kcw (by omega),if_pos rfl,show (0:Int)=((0:Nat):Int) from rfl,Kle n a hn (by omega) (n + 1) 0 P T B (by omega) (by omega) (by omega) (by omega),bs]
  simp only
  rw [Kcv (by omega),ih (a + 1) _ _ _ (by omega) (by simp; omega) (by simp; omega) (by simp; omega)]
  simp [List.range'_succ,List.flatMap_cons]
theorem Klg (n:Nat) (h1:1 ≤ n) (h2:n ≤ 14):K3y (n:Int)=some (Kkr n true):=by
 unfold K3y K3v K3s
 rw [iIn,bs,show inB (n:Int) 1 14=true from by unfold inB; rw [decide_eq_true (by omega),decide_eq_true (by omega)]; rfl,if_pos rfl,Kcv (by omega),show wr ((n:Int) + 2)=((n + 2:Nat):Int) from by rw [Kct (by omega) (by omega)]; omega]
 simp only
 rw [show (0:Int)=((0:Nat):Int) from rfl,Klb n h2 (n + 2) 0 [] [] [] (by omega) (by simp; omega) (by simp; omega) (by simp; omega)]
 rfl
theorem Klh (n:Nat) (h1:1 ≤ n) (h2:n ≤ 14):K4i (n:Int)=some (Kkr n false):=by
 unfold K4i K4f K4c
 rw [iIn,bs,show inB (n:Int) 1 14=true from by unfold inB; rw [decide_eq_true (by omega),decide_eq_true (by omega)]; rfl,if_pos rfl]
 simp only
 rw [Kcv (by omega),show wr ((n:Int) + 2)=((n + 2:Nat):Int) from by rw [Kct (by omega) (by omega)]; omega,show (0:Int)=((0:Nat):Int) from rfl,Kld n h2 (n + 2) 0 [] [] [] (by omega) (by simp; omega) (by simp; omega) (by simp; omega)]
 rfl
theorem Kli (n:Nat) (h1:1 ≤ n) (h2:n ≤ 15):K5c (n:Int)=some (Kkw n):=by
 unfold K5c K55
 rw [iIn,bs,show inB (n:Int) 1 15=true from by unfold inB; rw [decide_eq_true (by omega),decide_eq_true (by omega)]; rfl,if_pos rfl,Kcv (by omega)]
 simp only
 rw [show (0:Int)=((0:Nat):Int) from rfl,Klf n h2 (n + 1) 0 [] [] [] (by omega) (by simp; omega) (by simp; omega) (by simp; omega)]
 rfl
def Klj (p:Nat × Nat):K01:=⟨(p.1:Int),(p.2:Int)⟩
def Klk (p:Nat × Nat):Bool:=!(p == (0,0)) && !(p == (1,1))
def Kll (m n:Nat):List (Nat × Nat):=(List.range (m * n)).map fun g=>(Kky n g,Kkz n g)
def Klm (m n:Nat):List (Nat × Nat):=(0,0) :: (1,1) :: (List.range' 0 m).flatMap fun x=>((List.range' 0 n).map fun y=>(x,y)).filter Klk
def Kln:List (Nat × Nat)→Nat × Nat→Nat→Option Nat
 | [],_,_=>none
 | e :: l,v,i=>if v == e then some i else Kln l v (i + 1)
def Klo (m n:Nat):Bool:=Klm m n == Kll m n && (List.range m).all fun x=>(List.range n).all fun y=>Kln (Kll m n) (x,y) 0 == some (Kl0 n x y)
theorem Klp:((List.range 17).all fun m=>(List.range 17).all fun n=>!(decide (2 ≤ m) && decide (2 ≤ n) && decide (m * n ≤ 16)) || Klo m n)=true:=by kernel_rfl
theorem Klq {m n:Nat} (hm:2 ≤ m) (hn:2 ≤ n) (hmn:m * n ≤ 16):Klm m n=Kll m n∧∀ x y,x < m→y < n→Kln (Kll m n) (x,y) 0=some (Kl0 n x y):=by
 obtain ⟨b1,b2⟩:=Kl7 hm hn hmn
 have h:=Klp
 rw [List.all_eq_true] at h
 have h:=h m (List.mem_range.2 (by omega))
 rw [List.all_eq_true] at h
 have h:=h n (List.mem_range.2 (by omega))
 rw [decide_eq_true hm,decide_eq_true hn,decide_eq_true hmn] at h
 simp only [Bool.and_self,Bool.not_true,Bool.false_or] at h
 unfold Klo at h
 rw [Bool.and_eq_true,List.all_eq_true] at h
 refine ⟨eq_of_beq h.1,fun x y hx hy=>?_⟩
 have h2:=h.2 x (List.mem_range.2 hx)
 rw [List.all_eq_true] at h2
 exact eq_of_beq (h2 y (List.mem_range.2 hy))
theorem Klr (p q:Nat × Nat):((Klj p).fa0 == (Klj q).fa0 && (Klj p).fa1 == (Klj q).fa1)=(p == q):=by
 obtain ⟨a,b⟩:=p
 obtain ⟨c,d⟩:=q
 show (((a:Int) == (c:Int)) && ((b:Int) == (d:Int)))=((a == c) && (b == d))
 rw [Kda,Kda]
theorem Kls {a b:K00} {n:Nat} (tb:Tab b n) (hn:n ≤ 16) (x:Nat):∀ (k y:Nat) (out:List (Nat × Nat)),y + k=n→out.length + k ≤ 1000000 →
  K6w (a,b,(x:Int),((0,0) :: (1,1) :: out).map Klj,(y:Int))=some (((0,0) :: (1,1) :: (out ++ ((List.range' y k).map fun y=>(x,y)).filter Klk)).map Klj):=by
 intro k
 induction k with
 | zero =>
  intro y out hy ho
  rw [K6w.eq_def]
  simp only
  rw [tb.size,Kcx (by omega),if_neg (by decide)]
  simp
 | succ k ih =>
  intro y out hy ho
  have i0:idx (((0,0) :: (1,1) :: out).map Klj) 0=some (Klj (0,0)):=rfl
  have i1:idx (((0,0) :: (1,1) :: out).map Klj) 1=some (Klj (1,1)):=rfl
  have c0:((x:Int) == (Klj (0,0)).fa0 && (y:Int) == (Klj (0,0)).fa1)=((x,y) == ((0,0):Nat × Nat)):=Klr (x,y) (0,0)
  have c1:((x:Int) == (Klj (1,1)).fa0 && (y:Int) == (Klj (1,1)).fa1)=((x,y) == ((1,1):Nat × Nat)):=Klr (x,y) (1,1)
  have e3:((idx (((0,0) :: (1,1) :: out).map Klj) 0 >>= fun e=>if ((x:Int) == e.fa0 && (y:Int) == e.fa1)=true then some false else idx (((0,0) :: (1,1) :: out).map Klj) 1 >>= fun e=>some (!((x:Int) == e.fa0 && (y:Int) == e.fa1))):Option Bool)=some (Klk (x,y)):=by
   rw [i0,i1,bs,bs,c0,c1]
   unfold Klk
   cases ((x,y) == ((0,0):Nat × Nat)) <;> rfl
  rw [K6w.eq_def]
  simp only
  rw [tb.size,Kcw (by omega),if_pos rfl,e3,bs]
  cases hw:Klk (x,y)
  ·rw [if_neg (by decide),bs,Kcv (by omega),ih (y + 1) out (by omega) (by omega)]
   simp [List.range'_succ,hw]
  ·rw [if_pos rfl,Key (by simp; omega),bs,bs,Kcv (by omega)]
   have e:((0,0) :: (1,1) :: out).map Klj ++ [(⟨(x:Int),(y:Int)⟩:K01)]=((0,0) :: (1,1) :: (out ++ [(x,y)])).map Klj:=by simp [Klj]
   rw [e,ih (y + 1) (out ++ [(x,y)]) (by omega) (by simp; omega)]
   simp [List.range'_succ,hw]
theorem Klt (n x:Nat):((((List.range' 0 n).map fun y=>(x,y)).filter Klk).length ≤ n):=by
 refine Nat.le_trans (List.length_filter_le _ _) ?_
 simp
theorem Klu {a b:K00} {m n:Nat} (ta:Tab a m) (tb:Tab b n) (hm:m ≤ 16) (hn:n ≤ 16):∀ (k x:Nat) (out:List (Nat × Nat)),x + k=m→out.length + k * 16 ≤ 10000 →
  K70 (a,b,((0,0) :: (1,1) :: out).map Klj,(x:Int))=some (((0,0) :: (1,1) :: (out ++ (List.range' x k).flatMap fun x=>((List.range' 0 n).map fun y=>(x,y)).filter Klk)).map Klj):=by
 intro k
 induction k with
 | zero =>
  intro x out hx ho
  rw [K70.eq_def]
  simp only
  rw [ta.size,Kcx (by omega),if_neg (by decide)]
  simp
 | succ k ih =>
  intro x out hx ho
  have:=Klt n x
  rw [K70.eq_def]
  simp only
  rw [ta.size,Kcw (by omega),if_pos rfl,show (0:Int)=((0:Nat):Int) from rfl,Kls tb hn x n 0 out (by omega) (by omega),bs,Kcv (by omega),ih (x + 1) _ (by omega) (by rw [List.length_append]; omega)]
  simp [List.range'_succ]
theorem Klv {a b:K00} {m n:Nat} (ta:Tab a m) (tb:Tab b n) (hm:2 ≤ m) (hn:2 ≤ n) (hmn:m * n ≤ 16):K73 (a,b)=some ((Kll m n).map Klj):=by
 obtain ⟨b1,b2⟩:=Kl7 hm hn hmn
 have h:=Klu ta tb b1 b2 m 0 [] (by omega) (by simp; omega)
 unfold K73
 simp only
 rw [show ([(⟨0,0⟩:K01),⟨1,1⟩]:List K01)=((0,0) :: (1,1) :: []).map Klj from rfl,show (0:Int)=((0:Nat):Int) from rfl,h,bs,← (Klq hm hn hmn).1]
 rfl
theorem Klw (L:List (Nat × Nat)) (v:Nat × Nat) (hL:L.length ≤ 1000):∀ (l:List (Nat × Nat)) (i:Nat),L.drop i=l→K77 (L.map Klj,Klj v,(i:Int))=some (match Kln l v i with | some k=>.inr (k:Int) | none=>.inl ()):=by
 intro l
 induction l with
 | nil =>
  intro i hd
  rw [K77.eq_def]
  simp only
  rw [Kcx (by rw [List.length_map]; exact Kdu hd),if_neg (by decide)]
  rfl
 | cons e l ih =>
  intro i hd
  obtain ⟨h1,h2,h3⟩:=Kdt hd
  have h2':idx (L.map Klj) (i:Int)=some (Klj e):=by
   have hg:L[i]=e:=by
    have:=Kcu h1
    rw [h2] at this
    exact (Option.some.inj this).symm
   rw [Kcu (by rw [List.length_map]; exact h1),List.getElem_map,hg]
  rw [K77.eq_def]
  simp only
  rw [Kcw (by rw [List.length_map]; exact h1),if_pos rfl,h2',bs,Klr]
  unfold Kln
  cases hv:v == e
  ·rw [if_neg (by decide),if_neg (by decide),Kcv (by omega),ih (i + 1) h3]
  ·rw [if_pos rfl,if_pos rfl]
theorem Klx {m n:Nat} (hm:2 ≤ m) (hn:2 ≤ n) (hmn:m * n ≤ 16) {x y:Nat} (hx:x < m) (hy:y < n):K7a ((Kll m n).map Klj,⟨(x:Int),(y:Int)⟩)=some ((Kl0 n x y:Nat):Int):=by
 unfold K7a
 simp only
 have h:=Klw (Kll m n) (x,y) (by unfold Kll; simp; omega) (Kll m n) 0 rfl
 rw [(Klq hm hn hmn).2 x y hx hy] at h
 rw [show (⟨(x:Int),(y:Int)⟩:K01)=Klj (x,y) from rfl,show (0:Int)=((0:Nat):Int) from rfl,h,bs]
section
variable {a b:K00} {m n:Nat} (ta:Tab a m) (tb:Tab b n) (hm:2 ≤ m) (hn:2 ≤ n) (hmn:m * n ≤ 16)
theorem Kly {g:Nat} (hg:g < m * n):idx ((Kll m n).map Klj) (g:Int)=some ⟨((Kky n g:Nat):Int),((Kkz n g:Nat):Int)⟩:=by
 rw [Kcu (by unfold Kll; simp; exact hg)]
 simp [Kll,Klj]
include ta tb hm hn hmn
theorem iP2 {g h:Nat} (hg:g < m * n) (hh:h < m * n):K7g ((g:Int),(h:Int),(Kll m n).map Klj,a,(Kll m n).map Klj,b)=some (Kl3 a b m n g h):=by
 have f1:=Kl1 hm hn hg
 have f2:=Kl1 hm hn hh
 have s1:Kkz n g < n:=Kl2 hn
 have s2:Kkz n h < n:=Kl2 hn
 unfold K7g K7d
 simp only
 rw [Kly hg,Kly hh]
 simp only [bs]
 rw [Kd8 ta f1 f2,Kd8 tb s1 s2]
 simp only [bs]
 rw [Klx hm hn hmn (Kd1 ta f1 f2) (Kd1 tb s1 s2)]
 rfl
theorem iP3 {g h:Nat} (hg:g < m * n) (hh:h < m * n):K7j ((g:Int),(h:Int),(Kll m n).map Klj,a,(Kll m n).map Klj,b)=some (Kl4 a b m n g h):=by
 have f1:=Kl1 hm hn hg
 have f2:=Kl1 hm hn hh
 have s1:Kkz n g < n:=Kl2 hn
 have s2:Kkz n h < n:=Kl2 hn
 unfold K7j K7d
 simp only
 rw [Kly hg,Kly hh]
 simp only [bs]
 rw [Kd9 ta f1 f2,Kd9 tb s1 s2]
 simp only [bs]
 rw [Klx hm hn hmn (Kd2 ta f1 f2) (Kd2 tb s1 s2)]
 rfl
theorem iP4 {g h:Nat} (hg:g < m * n) (hh:h < m * n):K7o ((g:Int),(h:Int),a,(Kll m n).map Klj,b)=some (Kl5 a b m n g h):=by
 have _h:=hmn
 have f1:=Kl1 hm hn hg
 have f2:=Kl1 hm hn hh
 have s1:Kkz n g < n:=Kl2 hn
 have s2:Kkz n h < n:=Kl2 hn
 unfold K7o
 simp only
 rw [Kly hg,Kly hh]
 simp only [bs]
 rw [iLe ta f1 f2,iLe tb s1 s2]
 simp only [bs]
 unfold Kl5
 cases le a m (Kky n g) (Kky n h) <;> rfl
theorem Klz {g:Nat} (hg:g < m * n):∀ (k h:Nat) (P T:List Int) (B:List Bool),h + k=m * n→P.length + k ≤ 1000000→T.length + k ≤ 1000000→B.length + k ≤ 1000000 →
  K7s (((m * n:Nat):Int),(Kll m n).map Klj,a,(Kll m n).map Klj,b,(Kll m n).map Klj,a,(Kll m n).map Klj,b,a,(Kll m n).map Klj,b,(g:Int),P,T,B,(h:Int)) =
   some (P ++ (List.range' h k).map (Kl3 a b m n g),T ++ (List.range' h k).map (Kl4 a b m n g),B ++ (List.range' h k).map (Kl5 a b m n g)):=by
 intro k
 induction k with
 | zero =>
  intro h P T B hb _ _ _
  rw [K7s.eq_def]
  simp only
  rw [Kcx (by omega),if_neg (by decide)]
  simp
 | succ k ih =>
  intro h P T B hb h4 h5 h6
  rw [K7s.eq_def]
  simp only
  rw [Kcw (by omega),if_pos rfl,iP2 ta tb hm hn hmn hg (by omega),bs,Key (by simp; omega),bs,iP3 ta tb hm hn hmn hg (by omega),bs,Key (by simp; omega),bs,iP4 ta tb hm hn hmn hg (by omega),bs,Key (by simp; omega),bs,Kcv (by omega),ih (h + 1) _ _ _ (by omega) (by simp; omega) (by simp; omega) (by simp; omega)]
  simp [List.range'_succ]
theorem Km0:∀ (k g:Nat) (P T:List Int) (B:List Bool),g + k=m * n→P.length + k * 16 ≤ 10000→T.length + k * 16 ≤ 10000→B.length + k * 16 ≤ 10000 →
  K7w (((m * n:Nat):Int),(Kll m n).map Klj,a,(Kll m n).map Klj,b,(Kll m n).map Klj,a,(Kll m n).map Klj,b,a,(Kll m n).map Klj,b,P,T,B,(g:Int)) =
   some (P ++ (List.range' g k).flatMap (fun g=>(List.range' 0 (m * n)).map (Kl3 a b m n g)),T ++ (List.range' g k).flatMap (fun g=>(List.range' 0 (m * n)).map (Kl4 a b m n g)),B ++ (List.range' g k).flatMap (fun g=>(List.range' 0 (m * n)).map (Kl5 a b m n g))):=by
 intro k
 induction k with
 | zero =>
  intro g P T B hb _ _ _
  rw [K7w.eq_def]
  simp only
  rw [Kcx (by omega),if_neg (by decide)]
  simp
 | succ k ih =>
  intro g P T B hb h1 h2 h3
  rw [K7w.eq_def]
  simp only
  rw [Kcw (by omega),if_pos rfl,show (0:Int)=((0:Nat):Int) from rfl,Klz ta tb hm hn hmn (by omega) (m * n) 0 P T B (by omega) (by omega) (by omega) (by omega),bs]
  simp only
  rw [Kcv (by omega),ih (g + 1) _ _ _ (by omega) (by simp; omega) (by simp; omega) (by simp; omega)]
  simp [List.range'_succ,List.flatMap_cons]
theorem Km1 (sa:Kfb a=true) (sb:Kfb b=true):K82 (a,b)=some (Kl6 a b m n,true):=by
 have hN:wr (a.fSize * b.fSize)=((m * n:Nat):Int):=by
  rw [ta.size,tb.size,← Int.natCast_mul,Kct (by omega) (by omega)]
 have hl:(((Kll m n).map Klj).length:Int)=((m * n:Nat):Int):=by unfold Kll; simp
 unfold K82 K6s K7z
 simp only
 rw [Kfd,Kfd,bs,sa,if_pos rfl,bs,sb,if_pos rfl,bs,hN,decide_eq_true (by omega),bs,if_pos rfl,Klv ta tb hm hn hmn,bs,hl,show (0:Int)=((0:Nat):Int) from rfl,Km0 ta tb hm hn hmn (m * n) 0 [] [] [] (by omega) (by simp; omega) (by simp; omega) (by simp; omega),bs]
 rfl
end
def Km2 (n:Nat):ByteArray:=(K8e (n:Int)).getD ByteArray.empty
theorem Km3:((List.range 16).all fun n=>(K8e (n:Int)).isSome && decide ((Km2 n).size ≤ 2))=true:=by kernel_rfl
theorem Km4 {n:Nat} (h:n ≤ 15):K8e (n:Int)=some (Km2 n)∧(Km2 n).size ≤ 2:=by
 have q:=Km3
 rw [List.all_eq_true] at q
 have q:=q n (List.mem_range.2 (by omega))
 rw [Bool.and_eq_true,decide_eq_true_eq] at q
 refine ⟨?_,q.2⟩
 have q1:=q.1
 unfold Km2
 cases e:K8e (n:Int) with
 | none=>rw [e] at q1; cases q1
 | some t=>rfl
def Km5:ByteArray:=ByteArray.mk #[99,111,117,110,116,32]
def Km6:ByteArray:=ByteArray.mk #[98,111,117,110,100,32]
def Km7:ByteArray:=ByteArray.mk #[108,101,118,101,108,32]
def Km8 (pre:ByteArray) (f:Nat→K00) (a k:Nat):List K02:=(List.range' a k).map fun n=>⟨pre ++ Km2 n,f n⟩
theorem Km9 (pre:ByteArray) (f:Nat→K00) (a k:Nat):Km8 pre f a (k + 1)=⟨pre ++ Km2 a,f a⟩ :: Km8 pre f (a + 1) k:=by simp [Km8,List.range'_succ]
theorem ck6 (pre:ByteArray) (hp:pre.size=6) {n:Nat} (h:n ≤ 15):chk (((pre.size + (Km2 n).size:Nat):Int) ≤ 9223372036854775807)=some ():=by
 have:=(Km4 h).2
 unfold chk
 rw [if_pos (by omega)]
theorem Kma:∀ (k n:Nat) (out:List K02),n + k=15→1 ≤ n→out.length + k ≤ 1000→K8i (out,(n:Int))=some (out ++ Km8 Km5 (fun n=>Kkr n false) n k):=by
 intro k
 induction k with
 | zero =>
  intro n out hn h1 ho
  rw [K8i.eq_def]
  simp only
  rw [decide_eq_false (by omega),if_neg (by decide)]
  simp [Km8]
 | succ k ih =>
  intro n out hn h1 ho
  rw [K8i.eq_def]
  simp only
  rw [decide_eq_true (by omega),if_pos rfl,(Km4 (by omega)).1,bs,show (ByteArray.mk #[99,111,117,110,116,32])=Km5 from rfl,ck6 Km5 rfl (by omega),bs,Klh n h1 (by omega),bs,Key (by simp; omega),bs,Kcv (by omega),ih (n + 1) _ (by omega) (by omega) (by simp; omega),Km9]
  simp
theorem Kmb:∀ (k n:Nat) (out:List K02),n + k=15→1 ≤ n→out.length + k ≤ 1000→K8m (out,(n:Int))=some (out ++ Km8 Km6 (fun n=>Kkr n true) n k):=by
 intro k
 induction k with
 | zero =>
  intro n out hn h1 ho
  rw [K8m.eq_def]
  simp only
  rw [decide_eq_false (by omega),if_neg (by decide)]
  simp [Km8]
 | succ k ih =>
  intro n out hn h1 ho
  rw [K8m.eq_def]
  simp only
  rw [decide_eq_true (by omega),if_pos rfl,(Km4 (by omega)).1,bs,show (ByteArray.mk #[98,111,117,110,100,32])=Km6 from rfl,ck6 Km6 rfl (by omega),bs,Klg n h1 (by omega),bs,Key (by simp; omega),bs,Kcv (by omega),ih (n + 1) _ (by omega) (by omega) (by simp; omega),Km9]
  simp
theorem Kmc:∀ (k n:Nat) (out:List K02),n + k=16→1 ≤ n→out.length + k ≤ 1000→K8q (out,(n:Int))=some (out ++ Km8 Km7 Kkw n k):=by
 intro k
 induction k with
 | zero =>
  intro n out hn h1 ho
  rw [K8q.eq_def]
  simp only
  rw [decide_eq_false (by omega),if_neg (by decide)]
  simp [Km8]
 | succ k ih =>
  intro n out hn h1 ho
  rw [K8q.eq_def]
  simp only
  rw [decide_eq_true (by omega),if_pos rfl,(Km4 (by omega)).1,bs,show (ByteArray.mk #[108,101,118,101,108,32])=Km7 from rfl,ck6 Km7 rfl (by omega),bs,Kli n h1 (by omega),bs,Key (by simp; omega),bs,Kcv (by omega),ih (n + 1) _ (by omega) (by omega) (by simp; omega),Km9]
  simp
def Kmd:List K02:=Km8 Km5 (fun n=>Kkr n false) 1 14 ++ Km8 Km6 (fun n=>Kkr n true) 1 14 ++ Km8 Km7 Kkw 1 15
theorem Kme:K8t ()=some Kmd:=by
 unfold K8t
 rw [show (1:Int)=((1:Nat):Int) from rfl,Kma 14 1 [] rfl (by omega) (by simp),bs,Kmb 14 1 _ rfl (by omega) (by simp [Km8]),bs,Kmc 15 1 _ rfl (by omega) (by simp [Km8]),bs]
 rfl
theorem Kmf:Kmd.length=43:=by simp [Kmd,Km8]
def tx (e:K02):List UInt8:=e.ftext.data.toList
def ndB:List (List UInt8)→Bool
 | []=>true
 | x :: l=>!(l.contains x) && ndB l
theorem Kmg:(ndB (Kmd.map tx) && (Kmd.map tx).all fun t=>!(t.contains 42) && decide (t.length ≤ 10))=true:=by kernel_rfl
theorem Kmh {e:K02} (h:e ∈ Kmd):(42:UInt8) ∉ tx e∧(tx e).length ≤ 10:=by
 have q:=Kmg
 rw [Bool.and_eq_true,List.all_eq_true] at q
 have q:=q.2 (tx e) (List.mem_map.2 ⟨e,h,rfl⟩)
 rw [Bool.and_eq_true,decide_eq_true_eq] at q
 refine ⟨fun hm=>?_,q.2⟩
 rw [List.contains_iff_mem.2 hm] at q
 cases q.1
theorem Kmi:∀ {L:List K02},ndB (L.map tx)=true→∀ x ∈ L,L.find? (fun e=>tx e == tx x)=some x
 | [],_,x,hx=>by cases hx
 | e :: l,h,x,hx=>by
  rw [List.map_cons,ndB,Bool.and_eq_true,Bool.not_eq_true'] at h
  rcases List.mem_cons.1 hx with rfl | hx'
  ·rw [List.find?_cons_of_pos (by simp)]
  ·have hne:(tx e == tx x)=false:=by
    rw [beq_eq_false_iff_ne]
    intro he
    have:(l.map tx).contains (tx e)=true:=List.contains_iff_mem.2 (he ▸ List.mem_map.2 ⟨x,hx',rfl⟩)
    rw [this] at h
    cases h.1
   rw [List.find?_cons_of_neg (by rw [hne]; decide)]
   exact Kmi h.2 x hx'
theorem Kmj (t:ByteArray) (L:List K02) (hL:L.length ≤ 1000):∀ (l:List K02) (i:Nat),L.drop i=l→Ka6 (t,L,(i:Int))=some (match l.find? (fun e=>tx e == t.data.toList) with | some e=>.inr (e.fs,true) | none=>.inl ()):=by
 intro l
 induction l with
 | nil =>
  intro i hd
  rw [Ka6.eq_def]
  simp only
  rw [Kcx (Kdu hd),if_neg (by decide)]
  rfl
 | cons e l ih =>
  intro i hd
  obtain ⟨h1,h2,h3⟩:=Kdt hd
  rw [Ka6.eq_def]
  simp only
  rw [Kcw h1,if_pos rfl,h2,bs,ByteArray.toList_eq,ByteArray.toList_eq,show e.ftext.data.toList=tx e from rfl]
  cases hv:tx e == t.data.toList
  ·rw [if_neg (by decide),List.find?_cons_of_neg (by rw [hv]; decide),Kcv (by omega),ih (i + 1) h3]
  ·rw [if_pos rfl,List.find?_cons_of_pos (by rw [hv])]
theorem Kmk {t:ByteArray} {x:K02} (hx:x ∈ Kmd) (ht:t.data.toList=tx x):Ka9 t=some (x.fs,true):=by
 have q:=Kmg
 rw [Bool.and_eq_true] at q
 unfold Ka9
 rw [Kme,bs,show (0:Int)=((0:Nat):Int) from rfl,Kmj t Kmd (by rw [Kmf]; decide) Kmd 0 rfl,ht,Kmi q.1 x hx,bs]
def Kml:ByteArray:=ByteArray.mk #[42]
theorem Kmm:∀ (l:List UInt8),(42:UInt8) ∉ l→Lib.indexByte l 42=-1
 | [],_=>rfl
 | b :: l,h=>by
  have h1:(b == 42)=false:=by rw [beq_eq_false_iff_ne]; exact fun e=>h (e ▸ List.mem_cons_self)
  have h2:=Kmm l (fun hm=>h (List.mem_cons_of_mem _ hm))
  unfold Lib.indexByte
  rw [h1,h2]; rfl
theorem Kmn:∀ (l r:List UInt8),(42:UInt8) ∉ l→Lib.indexByte (l ++ 42 :: r) 42=(l.length:Int)
 | [],r,_=>by unfold Lib.indexByte; simp
 | b :: l,r,h=>by
  have h1:(b == 42)=false:=by rw [beq_eq_false_iff_ne]; exact fun e=>h (e ▸ List.mem_cons_self)
  have h2:=Kmn l r (fun hm=>h (List.mem_cons_of_mem _ hm))
  have h3:((l.length:Int) == -1)=false:=by rw [beq_eq_false_iff_ne]; omega
  rw [List.cons_append]
  unfold Lib.indexByte
  rw [h1,h2,h3]
  simp
theorem Kmo (t:ByteArray) (h:t.data.toList ≠ [42]):K9w (t,Kml)=some (Lib.indexByte t.data.toList 42):=by
 unfold K9w K9t
 simp only
 have e:(Kml.toList == t.toList)=false:=by
  rw [beq_eq_false_iff_ne,ByteArray.toList_eq,ByteArray.toList_eq]
  exact fun e=>h e.symm
 rw [if_neg (by decide),bs,e,if_neg (by decide),if_pos (by decide),show Qft Kml 0=some 42 from rfl,bs,bs]
 rfl
theorem Kmp (t:ByteArray) (h:(42:UInt8) ∉ t.data.toList):Ka2 (t,Kml)=some (t,ByteArray.empty,false):=by
 unfold Ka2 K9z
 simp only
 rw [Kmo t (fun e=>h (by rw [e]; simp)),Kmm _ h,bs,if_neg (by decide),bs]
theorem Kmq (t:ByteArray):t.size=t.data.toList.length:=by
 cases t with
 | mk d=>exact (Array.length_toList).symm
theorem Kmr (t:ByteArray) (a b:Nat):(t.extract a b).data.toList=(t.data.toList.take b).drop a:=by
 rw [ByteArray.data_extract,Array.toList_extract,List.extract_eq_drop_take',List.drop_take]
theorem Kms (t:ByteArray) (l r:List UInt8) (h:(42:UInt8) ∉ l) (ht:t.data.toList=l ++ 42 :: r) (hl:l ≠ []) (hb:l.length ≤ 1000000):∃ u v,Ka2 (t,Kml)=some (u,v,true)∧u.data.toList=l∧v.data.toList=r:=by
 have hs:t.size=l.length + 1 + r.length:=by rw [Kmq,ht]; simp; omega
 refine ⟨t.extract 0 l.length,t.extract (l.length + 1) t.size,?_,?_,?_⟩
 ·have c1:Qev t none (some ((l.length:Nat):Int))=some (t.extract 0 l.length):=by
   unfold Qev
   rw [if_pos ⟨by simp,by simp,by simp; omega⟩]
   simp
  have c2:Qev t (some ((l.length + 1:Nat):Int)) none=some (t.extract (l.length + 1) t.size):=by
   unfold Qev
   rw [if_pos ⟨by simp; omega,by simp; omega,by simp⟩]
   simp
  unfold Ka2 K9z
  simp only
  rw [Kmo t (fun e=>by
   rw [ht] at e
   cases l with
   | nil=>exact hl rfl
   | cons a l=>simp at e),ht,Kmn l r h,bs,decide_eq_true (by omega),if_pos rfl,c1,bs,show wr ((l.length:Int) + (Kml.size:Int))=((l.length + 1:Nat):Int) from Kcv (by omega),c2,bs,bs]
 ·rw [Kmr,ht]; simp
 ·rw [Kmr,hs,ht]
  rw [List.take_of_length_le (by simp; omega)]
  simp
def bl (l:List Nat):List Bool:=l.map fun k=>k == 1
def Kmt:K00:=⟨3,[0,1,2,1,2,2,2,2,2],[0,0,0,0,1,2,0,2,2],bl [1,0,1,0,1,1,0,0,1]⟩
theorem Kmu:Kkr 1 false=Kmt:=by kernel_rfl
theorem Kmv:Kfb Kmt=true:=by kernel_rfl
def Kmw:K00:=⟨4,[0,1,2,3,1,2,3,3,2,3,3,3,3,3,3,3],[0,0,0,0,0,1,2,3,0,2,3,3,0,3,3,3],bl [1,0,0,1,0,1,0,1,0,0,1,1,0,0,0,1]⟩
theorem Kmx:Kkr 2 false=Kmw:=by kernel_rfl
theorem Kmy:Kfb Kmw=true:=by kernel_rfl
def Kmz:K00:=⟨5,[0,1,2,3,4,1,2,3,4,4,2,3,4,4,4,3,4,4,4,4,4,4,4,4,4],[0,0,0,0,0,0,1,2,3,4,0,2,4,4,4,0,3,4,4,4,0,4,4,4,4],bl [1,0,0,0,1,0,1,0,0,1,0,0,1,0,1,0,0,0,1,1,0,0,0,0,1]⟩
theorem Kn0:Kkr 3 false=Kmz:=by kernel_rfl
theorem Kn1:Kfb Kmz=true:=by kernel_rfl
def Kn2:K00:=⟨6,[0,1,2,3,4,5,1,2,3,4,5,5,2,3,4,5,5,5,3,4,5,5,5,5,4,5,5,5,5,5,5,5,5,5,5,5],[0,0,0,0,0,0,0,1,2,3,4,5,0,2,4,5,5,5,0,3,5,5,5,5,0,4,5,5,5,5,0,5,5,5,5,5],bl [1,0,0,0,0,1,0,1,0,0,0,1,0,0,1,0,0,1,0,0,0,1,0,1,0,0,0,0,1,1,0,0,0,0,0,1]⟩
theorem Kn3:Kkr 4 false=Kn2:=by kernel_rfl
theorem Kn4:Kfb Kn2=true:=by kernel_rfl
def Kn5:K00:=⟨7,[0,1,2,3,4,5,6,1,2,3,4,5,6,6,2,3,4,5,6,6,6,3,4,5,6,6,6,6,4,5,6,6,6,6,6,5,6,6,6,6,6,6,6,6,6,6,6,6,6],[0,0,0,0,0,0,0,0,1,2,3,4,5,6,0,2,4,6,6,6,6,0,3,6,6,6,6,6,0,4,6,6,6,6,6,0,5,6,6,6,6,6,0,6,6,6,6,6,6],bl [1,0,0,0,0,0,1,0,1,0,0,0,0,1,0,0,1,0,0,0,1,0,0,0,1,0,0,1,0,0,0,0,1,0,1,0,0,0,0,0,1,1,0,0,0,0,0,0,1]⟩
theorem Kn6:Kkr 5 false=Kn5:=by kernel_rfl
theorem Kn7:Kfb Kn5=true:=by kernel_rfl
def Kn8:K00:=⟨8,[0,1,2,3,4,5,6,7,1,2,3,4,5,6,7,7,2,3,4,5,6,7,7,7,3,4,5,6,7,7,7,7,4,5,6,7,7,7,7,7,5,6,7,7,7,7,7,7,6,7,7,7,7,7,7,7,7,7,7,7,7,7,7,7],[0,0,0,0,0,0,0,0,0,1,2,3,4,5,6,7,0,2,4,6,7,7,7,7,0,3,6,7,7,7,7,7,0,4,7,7,7,7,7,7,0,5,7,7,7,7,7,7,0,6,7,7,7,7,7,7,0,7,7,7,7,7,7,7],bl [1,0,0,0,0,0,0,1,0,1,0,0,0,0,0,1,0,0,1,0,0,0,0,1,0,0,0,1,0,0,0,1,0,0,0,0,1,0,0,1,0,0,0,0,0,1,0,1,0,0,0,0,0,0,1,1,0,0,0,0,0,0,0,1]⟩
theorem Kn9:Kkr 6 false=Kn8:=by kernel_rfl
theorem Kna:Kfb Kn8=true:=by kernel_rfl
def Knb:K00:=⟨3,[0,1,2,1,2,2,2,2,2],[0,0,0,0,1,2,0,2,2],bl [1,1,1,0,1,1,0,0,1]⟩
theorem Knc:Kkr 1 true=Knb:=by kernel_rfl
theorem Knd:Kfb Knb=true:=by kernel_rfl
def Kne:K00:=⟨4,[0,1,2,3,1,2,3,3,2,3,3,3,3,3,3,3],[0,0,0,0,0,1,2,3,0,2,3,3,0,3,3,3],bl [1,1,1,1,0,1,1,1,0,0,1,1,0,0,0,1]⟩
theorem Knf:Kkr 2 true=Kne:=by kernel_rfl
theorem Kng:Kfb Kne=true:=by kernel_rfl
def Knh:K00:=⟨5,[0,1,2,3,4,1,2,3,4,4,2,3,4,4,4,3,4,4,4,4,4,4,4,4,4],[0,0,0,0,0,0,1,2,3,4,0,2,4,4,4,0,3,4,4,4,0,4,4,4,4],bl [1,1,1,1,1,0,1,1,1,1,0,0,1,1,1,0,0,0,1,1,0,0,0,0,1]⟩
theorem Kni:Kkr 3 true=Knh:=by kernel_rfl
theorem Knj:Kfb Knh=true:=by kernel_rfl
def Knk:K00:=⟨6,[0,1,2,3,4,5,1,2,3,4,5,5,2,3,4,5,5,5,3,4,5,5,5,5,4,5,5,5,5,5,5,5,5,5,5,5],[0,0,0,0,0,0,0,1,2,3,4,5,0,2,4,5,5,5,0,3,5,5,5,5,0,4,5,5,5,5,0,5,5,5,5,5],bl [1,1,1,1,1,1,0,1,1,1,1,1,0,0,1,1,1,1,0,0,0,1,1,1,0,0,0,0,1,1,0,0,0,0,0,1]⟩
theorem Knl:Kkr 4 true=Knk:=by kernel_rfl
theorem Knm:Kfb Knk=true:=by kernel_rfl
def Knn:K00:=⟨7,[0,1,2,3,4,5,6,1,2,3,4,5,6,6,2,3,4,5,6,6,6,3,4,5,6,6,6,6,4,5,6,6,6,6,6,5,6,6,6,6,6,6,6,6,6,6,6,6,6],[0,0,0,0,0,0,0,0,1,2,3,4,5,6,0,2,4,6,6,6,6,0,3,6,6,6,6,6,0,4,6,6,6,6,6,0,5,6,6,6,6,6,0,6,6,6,6,6,6],bl [1,1,1,1,1,1,1,0,1,1,1,1,1,1,0,0,1,1,1,1,1,0,0,0,1,1,1,1,0,0,0,0,1,1,1,0,0,0,0,0,1,1,0,0,0,0,0,0,1]⟩
theorem Kno:Kkr 5 true=Knn:=by kernel_rfl
theorem Knp:Kfb Knn=true:=by kernel_rfl
def Knq:K00:=⟨8,[0,1,2,3,4,5,6,7,1,2,3,4,5,6,7,7,2,3,4,5,6,7,7,7,3,4,5,6,7,7,7,7,4,5,6,7,7,7,7,7,5,6,7,7,7,7,7,7,6,7,7,7,7,7,7,7,7,7,7,7,7,7,7,7],[0,0,0,0,0,0,0,0,0,1,2,3,4,5,6,7,0,2,4,6,7,7,7,7,0,3,6,7,7,7,7,7,0,4,7,7,7,7,7,7,0,5,7,7,7,7,7,7,0,6,7,7,7,7,7,7,0,7,7,7,7,7,7,7],bl [1,1,1,1,1,1,1,1,0,1,1,1,1,1,1,1,0,0,1,1,1,1,1,1,0,0,0,1,1,1,1,1,0,0,0,0,1,1,1,1,0,0,0,0,0,1,1,1,0,0,0,0,0,0,1,1,0,0,0,0,0,0,0,1]⟩
theorem Knr:Kkr 6 true=Knq:=by kernel_rfl
theorem Kns:Kfb Knq=true:=by kernel_rfl
def Knt:K00:=⟨2,[0,1,1,1],[0,0,0,1],bl [1,1,0,1]⟩
theorem Knu:Kkw 1=Knt:=by kernel_rfl
theorem Knv:Kfb Knt=true:=by kernel_rfl
def Knw:K00:=⟨3,[0,1,2,1,1,1,2,1,2],[0,0,0,0,1,2,0,2,2],bl [1,1,1,0,1,0,0,1,1]⟩
theorem Knx:Kkw 2=Knw:=by kernel_rfl
theorem Kny:Kfb Knw=true:=by kernel_rfl
def Knz:K00:=⟨4,[0,1,2,3,1,1,1,1,2,1,2,2,3,1,2,3],[0,0,0,0,0,1,2,3,0,2,2,3,0,3,3,3],bl [1,1,1,1,0,1,0,0,0,1,1,0,0,1,1,1]⟩
theorem Ko0:Kkw 3=Knz:=by kernel_rfl
theorem Ko1:Kfb Knz=true:=by kernel_rfl
def Ko2:K00:=⟨5,[0,1,2,3,4,1,1,1,1,1,2,1,2,2,2,3,1,2,3,3,4,1,2,3,4],[0,0,0,0,0,0,1,2,3,4,0,2,2,3,4,0,3,3,3,4,0,4,4,4,4],bl [1,1,1,1,1,0,1,0,0,0,0,1,1,0,0,0,1,1,1,0,0,1,1,1,1]⟩
theorem Ko3:Kkw 4=Ko2:=by kernel_rfl
theorem Ko4:Kfb Ko2=true:=by kernel_rfl
def Ko5:K00:=⟨6,[0,1,2,3,4,5,1,1,1,1,1,1,2,1,2,2,2,2,3,1,2,3,3,3,4,1,2,3,4,4,5,1,2,3,4,5],[0,0,0,0,0,0,0,1,2,3,4,5,0,2,2,3,4,5,0,3,3,3,4,5,0,4,4,4,4,5,0,5,5,5,5,5],bl [1,1,1,1,1,1,0,1,0,0,0,0,0,1,1,0,0,0,0,1,1,1,0,0,0,1,1,1,1,0,0,1,1,1,1,1]⟩
theorem Ko6:Kkw 5=Ko5:=by kernel_rfl
theorem Ko7:Kfb Ko5=true:=by kernel_rfl
def Ko8:K00:=⟨7,[0,1,2,3,4,5,6,1,1,1,1,1,1,1,2,1,2,2,2,2,2,3,1,2,3,3,3,3,4,1,2,3,4,4,4,5,1,2,3,4,5,5,6,1,2,3,4,5,6],[0,0,0,0,0,0,0,0,1,2,3,4,5,6,0,2,2,3,4,5,6,0,3,3,3,4,5,6,0,4,4,4,4,5,6,0,5,5,5,5,5,6,0,6,6,6,6,6,6],bl [1,1,1,1,1,1,1,0,1,0,0,0,0,0,0,1,1,0,0,0,0,0,1,1,1,0,0,0,0,1,1,1,1,0,0,0,1,1,1,1,1,0,0,1,1,1,1,1,1]⟩
theorem Ko9:Kkw 6=Ko8:=by kernel_rfl
theorem Koa:Kfb Ko8=true:=by kernel_rfl
def Kob:K00:=⟨8,[0,1,2,3,4,5,6,7,1,1,1,1,1,1,1,1,2,1,2,2,2,2,2,2,3,1,2,3,3,3,3,3,4,1,2,3,4,4,4,4,5,1,2,3,4,5,5,5,6,1,2,3,4,5,6,6,7,1,2,3,4,5,6,7],[0,0,0,0,0,0,0,0,0,1,2,3,4,5,6,7,0,2,2,3,4,5,6,7,0,3,3,3,4,5,6,7,0,4,4,4,4,5,6,7,0,5,5,5,5,5,6,7,0,6,6,6,6,6,6,7,0,7,7,7,7,7,7,7],bl [1,1,1,1,1,1,1,1,0,1,0,0,0,0,0,0,0,1,1,0,0,0,0,0,0,1,1,1,0,0,0,0,0,1,1,1,1,0,0,0,0,1,1,1,1,1,0,0,0,1,1,1,1,1,1,0,0,1,1,1,1,1,1,1]⟩
theorem Koc:Kkw 7=Kob:=by kernel_rfl
theorem Kod:Kfb Kob=true:=by kernel_rfl
def Koe:K00:=⟨6,[0,1,2,3,4,5,1,5,1,5,5,5,2,1,2,1,5,5,3,5,1,4,4,5,4,5,5,4,4,5,5,5,5,5,5,5],[0,0,0,0,0,0,0,1,2,3,4,5,0,2,2,0,0,2,0,3,0,3,4,4,0,4,0,4,4,4,0,5,2,4,4,5],bl [1,0,1,0,1,1,0,1,0,0,0,1,0,0,1,0,0,1,0,1,0,1,1,1,0,0,0,0,1,1,0,0,0,0,0,1]⟩
theorem Kof:Kl6 Kmt Knt 3 2=Koe:=by kernel_rfl
def Kog:K00:=⟨8,[0,1,2,3,4,5,6,7,1,5,1,5,7,7,7,7,2,1,2,1,5,5,7,7,3,5,1,4,6,7,6,7,4,7,5,6,6,7,6,7,5,7,5,7,7,7,7,7,6,7,7,6,6,7,6,7,7,7,7,7,7,7,7,7],[0,0,0,0,0,0,0,0,0,1,2,3,4,5,6,7,0,2,2,0,0,2,0,2,0,3,0,3,4,4,6,6,0,4,0,4,6,6,6,6,0,5,2,4,6,7,6,7,0,6,0,6,6,6,6,6,0,7,2,6,6,7,6,7],bl [1,0,1,0,0,0,1,1,0,1,0,0,0,0,0,1,0,0,1,0,0,0,0,1,0,1,0,1,0,0,1,1,0,0,0,0,1,1,1,1,0,0,0,0,0,1,0,1,0,0,0,0,0,0,1,1,0,0,0,0,0,0,0,1]⟩
theorem Koh:Kl6 Kmw Knt 4 2=Kog:=by kernel_rfl
def Koi:K00:=⟨10,[0,1,2,3,4,5,6,7,8,9,1,5,1,5,7,7,9,9,9,9,2,1,2,1,5,5,7,7,9,9,3,5,1,4,6,7,8,9,8,9,4,7,5,6,8,9,8,9,8,9,5,7,5,7,9,9,9,9,9,9,6,9,7,8,8,9,8,9,8,9,7,9,7,9,9,9,9,9,9,9,8,9,9,8,8,9,8,9,8,9,9,9,9,9,9,9,9,9,9,9],[0,0,0,0,0,0,0,0,0,0,0,1,2,3,4,5,6,7,8,9,0,2,2,0,0,2,0,2,0,2,0,3,0,3,4,4,6,6,8,8,0,4,0,4,8,8,8,8,8,8,0,5,2,4,8,9,8,9,8,9,0,6,0,6,8,8,8,8,8,8,0,7,2,6,8,9,8,9,8,9,0,8,0,8,8,8,8,8,8,8,0,9,2,8,8,9,8,9,8,9],bl [1,0,1,0,0,0,0,0,1,1,0,1,0,0,0,0,0,0,0,1,0,0,1,0,0,0,0,0,0,1,0,1,0,1,0,0,0,0,1,1,0,0,0,0,1,1,0,0,1,1,0,0,0,0,0,1,0,0,0,1,0,0,0,0,0,0,1,1,1,1,0,0,0,0,0,0,0,1,0,1,0,0,0,0,0,0,0,0,1,1,0,0,0,0,0,0,0,0,0,1]⟩
theorem Koj:Kl6 Kmz Knt 5 2=Koi:=by kernel_rfl
def Kok:K00:=⟨12,[0,1,2,3,4,5,6,7,8,9,10,11,1,5,1,5,7,7,9,9,11,11,11,11,2,1,2,1,5,5,7,7,9,9,11,11,3,5,1,4,6,7,8,9,10,11,10,11,4,7,5,6,8,9,10,11,10,11,10,11,5,7,5,7,9,9,11,11,11,11,11,11,6,9,7,8,10,11,10,11,10,11,10,11,7,9,7,9,11,11,11,11,11,11,11,11,8,11,9,10,10,11,10,11,10,11,10,11,9,11,9,11,11,11,11,11,11,11,11,11,10,11,11,10,10,11,10,11,10,11,10,11,11,11,11,11,11,11,11,11,11,11,11,11],[0,0,0,0,0,0,0,0,0,0,0,0,0,1,2,3,4,5,6,7,8,9,10,11,0,2,2,0,0,2,0,2,0,2,0,2,0,3,0,3,4,4,6,6,8,8,10,10,0,4,0,4,8,8,10,10,10,10,10,10,0,5,2,4,8,9,10,11,10,11,10,11,0,6,0,6,10,10,10,10,10,10,10,10,0,7,2,6,10,11,10,11,10,11,10,11,0,8,0,8,10,10,10,10,10,10,10,10,0,9,2,8,10,11,10,11,10,11,10,11,0,10,0,10,10,10,10,10,10,10,10,10,0,11,2,10,10,11,10,11,10,11,10,11],bl [1,0,1,0,0,0,0,0,0,0,1,1,0,1,0,0,0,0,0,0,0,0,0,1,0,0,1,0,0,0,0,0,0,0,0,1,0,1,0,1,0,0,0,0,0,0,1,1,0,0,0,0,1,1,0,0,0,0,1,1,0,0,0,0,0,1,0,0,0,0,0,1,0,0,0,0,0,0,1,1,0,0,1,1,0,0,0,0,0,0,0,1,0,0,0,1,0,0,0,0,0,0,0,0,1,1,1,1,0,0,0,0,0,0,0,0,0,1,0,1,0,0,0,0,0,0,0,0,0,0,1,1,0,0,0,0,0,0,0,0,0,0,0,1]⟩
theorem Kol:Kl6 Kn2 Knt 6 2=Kok:=by kernel_rfl
def Kom:K00:=⟨14,[0,1,2,3,4,5,6,7,8,9,10,11,12,13,1,5,1,5,7,7,9,9,11,11,13,13,13,13,2,1,2,1,5,5,7,7,9,9,11,11,13,13,3,5,1,4,6,7,8,9,10,11,12,13,12,13,4,7,5,6,8,9,10,11,12,13,12,13,12,13,5,7,5,7,9,9,11,11,13,13,13,13,13,13,6,9,7,8,10,11,12,13,12,13,12,13,12,13,7,9,7,9,11,11,13,13,13,13,13,13,13,13,8,11,9,10,12,13,12,13,12,13,12,13,12,13,9,11,9,11,13,13,13,13,13,13,13,13,13,13,10,13,11,12,12,13,12,13,12,13,12,13,12,13,11,13,11,13,13,13,13,13,13,13,13,13,13,13,12,13,13,12,12,13,12,13,12,13,12,13,12,13,13,13,13,13,13,13,13,13,13,13,13,13,13,13],[0,0,0,0,0,0,0,0,0,0,0,0,0,0,0,1,2,3,4,5,6,7,8,9,10,11,12,13,0,2,2,0,0,2,0,2,0,2,0,2,0,2,0,3,0,3,4,4,6,6,8,8,10,10,12,12,0,4,0,4,8,8,12,12,12,12,12,12,12,12,0,5,2,4,8,9,12,13,12,13,12,13,12,13,0,6,0,6,12,12,12,12,12,12,12,12,12,12,0,7,2,6,12,13,12,13,12,13,12,13,12,13,0,8,0,8,12,12,12,12,12,12,12,12,12,12,0,9,2,8,12,13,12,13,12,13,12,13,12,13,0,10,0,10,12,12,12,12,12,12,12,12,12,12,0,11,2,10,12,13,12,13,12,13,12,13,12,13,0,12,0,12,12,12,12,12,12,12,12,12,12,12,0,13,2,12,12,13,12,13,12,13,12,13,12,13],bl [1,0,1,0,0,0,0,0,0,0,0,0,1,1,0,1,0,0,0,0,0,0,0,0,0,0,0,1,0,0,1,0,0,0,0,0,0,0,0,0,0,1,0,1,0,1,0,0,0,0,0,0,0,0,1,1,0,0,0,0,1,1,0,0,0,0,0,0,1,1,0,0,0,0,0,1,0,0,0,0,0,0,0,1,0,0,0,0,0,0,1,1,0,0,0,0,1,1,0,0,0,0,0,0,0,1,0,0,0,0,0,1,0,0,0,0,0,0,0,0,1,1,0,0,1,1,0,0,0,0,0,0,0,0,0,1,0,0,0,1,0,0,0,0,0,0,0,0,0,0,1,1,1,1,0,0,0,0,0,0,0,0,0,0,0,1,0,1,0,0,0,0,0,0,0,0,0,0,0,0,1,1,0,0,0,0,0,0,0,0,0,0,0,0,0,1]⟩
theorem Kon:Kl6 Kn5 Knt 7 2=Kom:=by kernel_rfl
def Koo:K00:=⟨16,[0,1,2,3,4,5,6,7,8,9,10,11,12,13,14,15,1,5,1,5,7,7,9,9,11,11,13,13,15,15,15,15,2,1,2,1,5,5,7,7,9,9,11,11,13,13,15,15,3,5,1,4,6,7,8,9,10,11,12,13,14,15,14,15,4,7,5,6,8,9,10,11,12,13,14,15,14,15,14,15,5,7,5,7,9,9,11,11,13,13,15,15,15,15,15,15,6,9,7,8,10,11,12,13,14,15,14,15,14,15,14,15,7,9,7,9,11,11,13,13,15,15,15,15,15,15,15,15,8,11,9,10,12,13,14,15,14,15,14,15,14,15,14,15,9,11,9,11,13,13,15,15,15,15,15,15,15,15,15,15,10,13,11,12,14,15,14,15,14,15,14,15,14,15,14,15,11,13,11,13,15,15,15,15,15,15,15,15,15,15,15,15,12,15,13,14,14,15,14,15,14,15,14,15,14,15,14,15,13,15,13,15,15,15,15,15,15,15,15,15,15,15,15,15,14,15,15,14,14,15,14,15,14,15,14,15,14,15,14,15,15,15,15,15,15,15,15,15,15,15,15,15,15,15,15,15],[0,0,0,0,0,0,0,0,0,0,0,0,0,0,0,0,0,1,2,3,4,5,6,7,8,9,10,11,12,13,14,15,0,2,2,0,0,2,0,2,0,2,0,2,0,2,0,2,0,3,0,3,4,4,6,6,8,8,10,10,12,12,14,14,0,4,0,4,8,8,12,12,14,14,14,14,14,14,14,14,0,5,2,4,8,9,12,13,14,15,14,15,14,15,14,15,0,6,0,6,12,12,14,14,14,14,14,14,14,14,14,14,0,7,2,6,12,13,14,15,14,15,14,15,14,15,14,15,0,8,0,8,14,14,14,14,14,14,14,14,14,14,14,14,0,9,2,8,14,15,14,15,14,15,14,15,14,15,14,15,0,10,0,10,14,14,14,14,14,14,14,14,14,14,14,14,0,11,2,10,14,15,14,15,14,15,14,15,14,15,14,15,0,12,0,12,14,14,14,14,14,14,14,14,14,14,14,14,0,13,2,12,14,15,14,15,14,15,14,15,14,15,14,15,0,14,0,14,14,14,14,14,14,14,14,14,14,14,14,14,0,15,2,14,14,15,14,15,14,15,14,15,14,15,14,15],bl [1,0,1,0,0,0,0,0,0,0,0,0,0,0,1,1,0,1,0,0,0,0,0,0,0,0,0,0,0,0,0,1,0,0,1,0,0,0,0,0,0,0,0,0,0,0,0,1,0,1,0,1,0,0,0,0,0,0,0,0,0,0,1,1,0,0,0,0,1,1,0,0,0,0,0,0,0,0,1,1,0,0,0,0,0,1,0,0,0,0,0,0,0,0,0,1,0,0,0,0,0,0,1,1,0,0,0,0,0,0,1,1,0,0,0,0,0,0,0,1,0,0,0,0,0,0,0,1,0,0,0,0,0,0,0,0,1,1,0,0,0,0,1,1,0,0,0,0,0,0,0,0,0,1,0,0,0,0,0,1,0,0,0,0,0,0,0,0,0,0,1,1,0,0,1,1,0,0,0,0,0,0,0,0,0,0,0,1,0,0,0,1,0,0,0,0,0,0,0,0,0,0,0,0,1,1,1,1,0,0,0,0,0,0,0,0,0,0,0,0,0,1,0,1,0,0,0,0,0,0,0,0,0,0,0,0,0,0,1,1,0,0,0,0,0,0,0,0,0,0,0,0,0,0,0,1]⟩
theorem Kop:Kl6 Kn8 Knt 8 2=Koo:=by kernel_rfl
def Koq:K00:=⟨6,[0,1,2,3,4,5,1,5,1,5,5,5,2,1,2,1,5,5,3,5,1,4,4,5,4,5,5,4,4,5,5,5,5,5,5,5],[0,0,0,0,0,0,0,1,2,3,4,5,0,2,2,0,0,2,0,3,0,3,4,4,0,4,0,4,4,4,0,5,2,4,4,5],bl [1,1,1,1,1,1,0,1,0,0,0,1,0,1,1,0,0,1,0,1,0,1,1,1,0,0,0,0,1,1,0,0,0,0,0,1]⟩
theorem Kor:Kl6 Knb Knt 3 2=Koq:=by kernel_rfl
def Kos:K00:=⟨8,[0,1,2,3,4,5,6,7,1,5,1,5,7,7,7,7,2,1,2,1,5,5,7,7,3,5,1,4,6,7,6,7,4,7,5,6,6,7,6,7,5,7,5,7,7,7,7,7,6,7,7,6,6,7,6,7,7,7,7,7,7,7,7,7],[0,0,0,0,0,0,0,0,0,1,2,3,4,5,6,7,0,2,2,0,0,2,0,2,0,3,0,3,4,4,6,6,0,4,0,4,6,6,6,6,0,5,2,4,6,7,6,7,0,6,0,6,6,6,6,6,0,7,2,6,6,7,6,7],bl [1,1,1,1,1,1,1,1,0,1,0,0,0,1,0,1,0,1,1,0,0,1,0,1,0,1,0,1,1,1,1,1,0,0,0,0,1,1,1,1,0,0,0,0,0,1,0,1,0,0,0,0,0,0,1,1,0,0,0,0,0,0,0,1]⟩
theorem Kot:Kl6 Kne Knt 4 2=Kos:=by kernel_rfl
def Kou:K00:=⟨10,[0,1,2,3,4,5,6,7,8,9,1,5,1,5,7,7,9,9,9,9,2,1,2,1,5,5,7,7,9,9,3,5,1,4,6,7,8,9,8,9,4,7,5,6,8,9,8,9,8,9,5,7,5,7,9,9,9,9,9,9,6,9,7,8,8,9,8,9,8,9,7,9,7,9,9,9,9,9,9,9,8,9,9,8,8,9,8,9,8,9,9,9,9,9,9,9,9,9,9,9],[0,0,0,0,0,0,0,0,0,0,0,1,2,3,4,5,6,7,8,9,0,2,2,0,0,2,0,2,0,2,0,3,0,3,4,4,6,6,8,8,0,4,0,4,8,8,8,8,8,8,0,5,2,4,8,9,8,9,8,9,0,6,0,6,8,8,8,8,8,8,0,7,2,6,8,9,8,9,8,9,0,8,0,8,8,8,8,8,8,8,0,9,2,8,8,9,8,9,8,9],bl [1,1,1,1,1,1,1,1,1,1,0,1,0,0,0,1,0,1,0,1,0,1,1,0,0,1,0,1,0,1,0,1,0,1,1,1,1,1,1,1,0,0,0,0,1,1,1,1,1,1,0,0,0,0,0,1,0,1,0,1,0,0,0,0,0,0,1,1,1,1,0,0,0,0,0,0,0,1,0,1,0,0,0,0,0,0,0,0,1,1,0,0,0,0,0,0,0,0,0,1]⟩
theorem Kov:Kl6 Knh Knt 5 2=Kou:=by kernel_rfl
def Kow:K00:=⟨12,[0,1,2,3,4,5,6,7,8,9,10,11,1,5,1,5,7,7,9,9,11,11,11,11,2,1,2,1,5,5,7,7,9,9,11,11,3,5,1,4,6,7,8,9,10,11,10,11,4,7,5,6,8,9,10,11,10,11,10,11,5,7,5,7,9,9,11,11,11,11,11,11,6,9,7,8,10,11,10,11,10,11,10,11,7,9,7,9,11,11,11,11,11,11,11,11,8,11,9,10,10,11,10,11,10,11,10,11,9,11,9,11,11,11,11,11,11,11,11,11,10,11,11,10,10,11,10,11,10,11,10,11,11,11,11,11,11,11,11,11,11,11,11,11],[0,0,0,0,0,0,0,0,0,0,0,0,0,1,2,3,4,5,6,7,8,9,10,11,0,2,2,0,0,2,0,2,0,2,0,2,0,3,0,3,4,4,6,6,8,8,10,10,0,4,0,4,8,8,10,10,10,10,10,10,0,5,2,4,8,9,10,11,10,11,10,11,0,6,0,6,10,10,10,10,10,10,10,10,0,7,2,6,10,11,10,11,10,11,10,11,0,8,0,8,10,10,10,10,10,10,10,10,0,9,2,8,10,11,10,11,10,11,10,11,0,10,0,10,10,10,10,10,10,10,10,10,0,11,2,10,10,11,10,11,10,11,10,11],bl [1,1,1,1,1,1,1,1,1,1,1,1,0,1,0,0,0,1,0,1,0,1,0,1,0,1,1,0,0,1,0,1,0,1,0,1,0,1,0,1,1,1,1,1,1,1,1,1,0,0,0,0,1,1,1,1,1,1,1,1,0,0,0,0,0,1,0,1,0,1,0,1,0,0,0,0,0,0,1,1,1,1,1,1,0,0,0,0,0,0,0,1,0,1,0,1,0,0,0,0,0,0,0,0,1,1,1,1,0,0,0,0,0,0,0,0,0,1,0,1,0,0,0,0,0,0,0,0,0,0,1,1,0,0,0,0,0,0,0,0,0,0,0,1]⟩
theorem Kox:Kl6 Knk Knt 6 2=Kow:=by kernel_rfl
def Koy:K00:=⟨14,[0,1,2,3,4,5,6,7,8,9,10,11,12,13,1,5,1,5,7,7,9,9,11,11,13,13,13,13,2,1,2,1,5,5,7,7,9,9,11,11,13,13,3,5,1,4,6,7,8,9,10,11,12,13,12,13,4,7,5,6,8,9,10,11,12,13,12,13,12,13,5,7,5,7,9,9,11,11,13,13,13,13,13,13,6,9,7,8,10,11,12,13,12,13,12,13,12,13,7,9,7,9,11,11,13,13,13,13,13,13,13,13,8,11,9,10,12,13,12,13,12,13,12,13,12,13,9,11,9,11,13,13,13,13,13,13,13,13,13,13,10,13,11,12,12,13,12,13,12,13,12,13,12,13,11,13,11,13,13,13,13,13,13,13,13,13,13,13,12,13,13,12,12,13,12,13,12,13,12,13,12,13,13,13,13,13,13,13,13,13,13,13,13,13,13,13],[0,0,0,0,0,0,0,0,0,0,0,0,0,0,0,1,2,3,4,5,6,7,8,9,10,11,12,13,0,2,2,0,0,2,0,2,0,2,0,2,0,2,0,3,0,3,4,4,6,6,8,8,10,10,12,12,0,4,0,4,8,8,12,12,12,12,12,12,12,12,0,5,2,4,8,9,12,13,12,13,12,13,12,13,0,6,0,6,12,12,12,12,12,12,12,12,12,12,0,7,2,6,12,13,12,13,12,13,12,13,12,13,0,8,0,8,12,12,12,12,12,12,12,12,12,12,0,9,2,8,12,13,12,13,12,13,12,13,12,13,0,10,0,10,12,12,12,12,12,12,12,12,12,12,0,11,2,10,12,13,12,13,12,13,12,13,12,13,0,12,0,12,12,12,12,12,12,12,12,12,12,12,0,13,2,12,12,13,12,13,12,13,12,13,12,13],bl [1,1,1,1,1,1,1,1,1,1,1,1,1,1,0,1,0,0,0,1,0,1,0,1,0,1,0,1,0,1,1,0,0,1,0,1,0,1,0,1,0,1,0,1,0,1,1,1,1,1,1,1,1,1,1,1,0,0,0,0,1,1,1,1,1,1,1,1,1,1,0,0,0,0,0,1,0,1,0,1,0,1,0,1,0,0,0,0,0,0,1,1,1,1,1,1,1,1,0,0,0,0,0,0,0,1,0,1,0,1,0,1,0,0,0,0,0,0,0,0,1,1,1,1,1,1,0,0,0,0,0,0,0,0,0,1,0,1,0,1,0,0,0,0,0,0,0,0,0,0,1,1,1,1,0,0,0,0,0,0,0,0,0,0,0,1,0,1,0,0,0,0,0,0,0,0,0,0,0,0,1,1,0,0,0,0,0,0,0,0,0,0,0,0,0,1]⟩
theorem Koz:Kl6 Knn Knt 7 2=Koy:=by kernel_rfl
def Kp0:K00:=⟨16,[0,1,2,3,4,5,6,7,8,9,10,11,12,13,14,15,1,5,1,5,7,7,9,9,11,11,13,13,15,15,15,15,2,1,2,1,5,5,7,7,9,9,11,11,13,13,15,15,3,5,1,4,6,7,8,9,10,11,12,13,14,15,14,15,4,7,5,6,8,9,10,11,12,13,14,15,14,15,14,15,5,7,5,7,9,9,11,11,13,13,15,15,15,15,15,15,6,9,7,8,10,11,12,13,14,15,14,15,14,15,14,15,7,9,7,9,11,11,13,13,15,15,15,15,15,15,15,15,8,11,9,10,12,13,14,15,14,15,14,15,14,15,14,15,9,11,9,11,13,13,15,15,15,15,15,15,15,15,15,15,10,13,11,12,14,15,14,15,14,15,14,15,14,15,14,15,11,13,11,13,15,15,15,15,15,15,15,15,15,15,15,15,12,15,13,14,14,15,14,15,14,15,14,15,14,15,14,15,13,15,13,15,15,15,15,15,15,15,15,15,15,15,15,15,14,15,15,14,14,15,14,15,14,15,14,15,14,15,14,15,15,15,15,15,15,15,15,15,15,15,15,15,15,15,15,15],[0,0,0,0,0,0,0,0,0,0,0,0,0,0,0,0,0,1,2,3,4,5,6,7,8,9,10,11,12,13,14,15,0,2,2,0,0,2,0,2,0,2,0,2,0,2,0,2,0,3,0,3,4,4,6,6,8,8,10,10,12,12,14,14,0,4,0,4,8,8,12,12,14,14,14,14,14,14,14,14,0,5,2,4,8,9,12,13,14,15,14,15,14,15,14,15,0,6,0,6,12,12,14,14,14,14,14,14,14,14,14,14,0,7,2,6,12,13,14,15,14,15,14,15,14,15,14,15,0,8,0,8,14,14,14,14,14,14,14,14,14,14,14,14,0,9,2,8,14,15,14,15,14,15,14,15,14,15,14,15,0,10,0,10,14,14,14,14,14,14,14,14,14,14,14,14,0,11,2,10,14,15,14,15,14,15,14,15,14,15,14,15,0,12,0,12,14,14,14,14,14,14,14,14,14,14,14,14,0,13,2,12,14,15,14,15,14,15,14,15,14,15,14,15,0,14,0,14,14,14,14,14,14,14,14,14,14,14,14,14,0,15,2,14,14,15,14,15,14,15,14,15,14,15,14,15],bl [1,1,1,1,1,1,1,1,1,1,1,1,1,1,1,1,0,1,0,0,0,1,0,1,0,1,0,1,0,1,0,1,0,1,1,0,0,1,0,1,0,1,0,1,0,1,0,1,0,1,0,1,1,1,1,1,1,1,1,1,1,1,1,1,0,0,0,0,1,1,1,1,1,1,1,1,1,1,1,1,0,0,0,0,0,1,0,1,0,1,0,1,0,1,0,1,0,0,0,0,0,0,1,1,1,1,1,1,1,1,1,1,0,0,0,0,0,0,0,1,0,1,0,1,0,1,0,1,0,0,0,0,0,0,0,0,1,1,1,1,1,1,1,1,0,0,0,0,0,0,0,0,0,1,0,1,0,1,0,1,0,0,0,0,0,0,0,0,0,0,1,1,1,1,1,1,0,0,0,0,0,0,0,0,0,0,0,1,0,1,0,1,0,0,0,0,0,0,0,0,0,0,0,0,1,1,1,1,0,0,0,0,0,0,0,0,0,0,0,0,0,1,0,1,0,0,0,0,0,0,0,0,0,0,0,0,0,0,1,1,0,0,0,0,0,0,0,0,0,0,0,0,0,0,0,1]⟩
theorem Kp1:Kl6 Knq Knt 8 2=Kp0:=by kernel_rfl
def Kp2:K00:=⟨4,[0,1,2,3,1,1,1,1,2,1,2,1,3,1,1,3],[0,0,0,0,0,1,2,3,0,2,2,0,0,3,0,3],bl [1,1,1,1,0,1,0,0,0,1,1,0,0,1,0,1]⟩
theorem Kp3:Kl6 Knt Knt 2 2=Kp2:=by kernel_rfl
def Kp4:K00:=⟨6,[0,1,2,3,4,5,1,1,1,1,1,1,2,1,2,1,5,5,3,1,1,3,3,1,4,1,5,3,4,5,5,1,5,1,5,5],[0,0,0,0,0,0,0,1,2,3,4,5,0,2,2,0,0,2,0,3,0,3,4,4,0,4,0,4,4,4,0,5,2,4,4,5],bl [1,1,1,1,1,1,0,1,0,0,0,0,0,1,1,0,0,1,0,1,0,1,0,0,0,1,0,1,1,1,0,1,0,0,0,1]⟩
theorem Kp5:Kl6 Knw Knt 3 2=Kp4:=by kernel_rfl
def Kp6:K00:=⟨8,[0,1,2,3,4,5,6,7,1,1,1,1,1,1,1,1,2,1,2,1,5,5,7,7,3,1,1,3,3,1,3,1,4,1,5,3,4,5,4,5,5,1,5,1,5,5,5,5,6,1,7,3,4,5,6,7,7,1,7,1,5,5,7,7],[0,0,0,0,0,0,0,0,0,1,2,3,4,5,6,7,0,2,2,0,0,2,0,2,0,3,0,3,4,4,6,6,0,4,0,4,4,4,6,6,0,5,2,4,4,5,6,7,0,6,0,6,6,6,6,6,0,7,2,6,6,7,6,7],bl [1,1,1,1,1,1,1,1,0,1,0,0,0,0,0,0,0,1,1,0,0,1,0,1,0,1,0,1,0,0,0,0,0,1,0,1,1,1,0,0,0,1,0,0,0,1,0,0,0,1,0,1,1,1,1,1,0,1,0,0,0,1,0,1]⟩
theorem Kp7:Kl6 Knz Knt 4 2=Kp6:=by kernel_rfl
def Kp8:K00:=⟨10,[0,1,2,3,4,5,6,7,8,9,1,1,1,1,1,1,1,1,1,1,2,1,2,1,5,5,7,7,9,9,3,1,1,3,3,1,3,1,3,1,4,1,5,3,4,5,4,5,4,5,5,1,5,1,5,5,5,5,5,5,6,1,7,3,4,5,6,7,6,7,7,1,7,1,5,5,7,7,7,7,8,1,9,3,4,5,6,7,8,9,9,1,9,1,5,5,7,7,9,9],[0,0,0,0,0,0,0,0,0,0,0,1,2,3,4,5,6,7,8,9,0,2,2,0,0,2,0,2,0,2,0,3,0,3,4,4,6,6,8,8,0,4,0,4,4,4,6,6,8,8,0,5,2,4,4,5,6,7,8,9,0,6,0,6,6,6,6,6,8,8,0,7,2,6,6,7,6,7,8,9,0,8,0,8,8,8,8,8,8,8,0,9,2,8,8,9,8,9,8,9],bl [1,1,1,1,1,1,1,1,1,1,0,1,0,0,0,0,0,0,0,0,0,1,1,0,0,1,0,1,0,1,0,1,0,1,0,0,0,0,0,0,0,1,0,1,1,1,0,0,0,0,0,1,0,0,0,1,0,0,0,0,0,1,0,1,1,1,1,1,0,0,0,1,0,0,0,1,0,1,0,0,0,1,0,1,1,1,1,1,1,1,0,1,0,0,0,1,0,1,0,1]⟩
theorem Kp9:Kl6 Ko2 Knt 5 2=Kp8:=by kernel_rfl
def Kpa:K00:=⟨12,[0,1,2,3,4,5,6,7,8,9,10,11,1,1,1,1,1,1,1,1,1,1,1,1,2,1,2,1,5,5,7,7,9,9,11,11,3,1,1,3,3,1,3,1,3,1,3,1,4,1,5,3,4,5,4,5,4,5,4,5,5,1,5,1,5,5,5,5,5,5,5,5,6,1,7,3,4,5,6,7,6,7,6,7,7,1,7,1,5,5,7,7,7,7,7,7,8,1,9,3,4,5,6,7,8,9,8,9,9,1,9,1,5,5,7,7,9,9,9,9,10,1,11,3,4,5,6,7,8,9,10,11,11,1,11,1,5,5,7,7,9,9,11,11],[0,0,0,0,0,0,0,0,0,0,0,0,0,1,2,3,4,5,6,7,8,9,10,11,0,2,2,0,0,2,0,2,0,2,0,2,0,3,0,3,4,4,6,6,8,8,10,10,0,4,0,4,4,4,6,6,8,8,10,10,0,5,2,4,4,5,6,7,8,9,10,11,0,6,0,6,6,6,6,6,8,8,10,10,0,7,2,6,6,7,6,7,8,9,10,11,0,8,0,8,8,8,8,8,8,8,10,10,0,9,2,8,8,9,8,9,8,9,10,11,0,10,0,10,10,10,10,10,10,10,10,10,0,11,2,10,10,11,10,11,10,11,10,11],bl [1,1,1,1,1,1,1,1,1,1,1,1,0,1,0,0,0,0,0,0,0,0,0,0,0,1,1,0,0,1,0,1,0,1,0,1,0,1,0,1,0,0,0,0,0,0,0,0,0,1,0,1,1,1,0,0,0,0,0,0,0,1,0,0,0,1,0,0,0,0,0,0,0,1,0,1,1,1,1,1,0,0,0,0,0,1,0,0,0,1,0,1,0,0,0,0,0,1,0,1,1,1,1,1,1,1,0,0,0,1,0,0,0,1,0,1,0,1,0,0,0,1,0,1,1,1,1,1,1,1,1,1,0,1,0,0,0,1,0,1,0,1,0,1]⟩
theorem Kpb:Kl6 Ko5 Knt 6 2=Kpa:=by kernel_rfl
def Kpc:K00:=⟨14,[0,1,2,3,4,5,6,7,8,9,10,11,12,13,1,1,1,1,1,1,1,1,1,1,1,1,1,1,2,1,2,1,5,5,7,7,9,9,11,11,13,13,3,1,1,3,3,1,3,1,3,1,3,1,3,1,4,1,5,3,4,5,4,5,4,5,4,5,4,5,5,1,5,1,5,5,5,5,5,5,5,5,5,5,6,1,7,3,4,5,6,7,6,7,6,7,6,7,7,1,7,1,5,5,7,7,7,7,7,7,7,7,8,1,9,3,4,5,6,7,8,9,8,9,8,9,9,1,9,1,5,5,7,7,9,9,9,9,9,9,10,1,11,3,4,5,6,7,8,9,10,11,10,11,11,1,11,1,5,5,7,7,9,9,11,11,11,11,12,1,13,3,4,5,6,7,8,9,10,11,12,13,13,1,13,1,5,5,7,7,9,9,11,11,13,13],[0,0,0,0,0,0,0,0,0,0,0,0,0,0,0,1,2,3,4,5,6,7,8,9,10,11,12,13,0,2,2,0,0,2,0,2,0,2,0,2,0,2,0,3,0,3,4,4,6,6,8,8,10,10,12,12,0,4,0,4,4,4,6,6,8,8,10,10,12,12,0,5,2,4,4,5,6,7,8,9,10,11,12,13,0,6,0,6,6,6,6,6,8,8,10,10,12,12,0,7,2,6,6,7,6,7,8,9,10,11,12,13,0,8,0,8,8,8,8,8,8,8,10,10,12,12,0,9,2,8,8,9,8,9,8,9,10,11,12,13,0,10,0,10,10,10,10,10,10,10,10,10,12,12,0,11,2,10,10,11,10,11,10,11,10,11,12,13,0,12,0,12,12,12,12,12,12,12,12,12,12,12,0,13,2,12,12,13,12,13,12,13,12,13,12,13],bl [1,1,1,1,1,1,1,1,1,1,1,1,1,1,0,1,0,0,0,0,0,0,0,0,0,0,0,0,0,1,1,0,0,1,0,1,0,1,0,1,0,1,0,1,0,1,0,0,0,0,0,0,0,0,0,0,0,1,0,1,1,1,0,0,0,0,0,0,0,0,0,1,0,0,0,1,0,0,0,0,0,0,0,0,0,1,0,1,1,1,1,1,0,0,0,0,0,0,0,1,0,0,0,1,0,1,0,0,0,0,0,0,0,1,0,1,1,1,1,1,1,1,0,0,0,0,0,1,0,0,0,1,0,1,0,1,0,0,0,0,0,1,0,1,1,1,1,1,1,1,1,1,0,0,0,1,0,0,0,1,0,1,0,1,0,1,0,0,0,1,0,1,1,1,1,1,1,1,1,1,1,1,0,1,0,0,0,1,0,1,0,1,0,1,0,1]⟩
theorem Kpd:Kl6 Ko8 Knt 7 2=Kpc:=by kernel_rfl
theorem Kpe:Kfb Koe=true:=by kernel_rfl
theorem Kpf:Kfb Kog=true:=by kernel_rfl
theorem Kpg:Kfb Koi=true:=by kernel_rfl
theorem Kph:Kfb Kok=true:=by kernel_rfl
theorem Kpi:Kfb Kom=true:=by kernel_rfl
theorem Kpj:Kfb Koo=true:=by kernel_rfl
theorem Kpk:Kfb Koq=true:=by kernel_rfl
theorem Kpl:Kfb Kos=true:=by kernel_rfl
theorem Kpm:Kfb Kou=true:=by kernel_rfl
theorem Kpn:Kfb Kow=true:=by kernel_rfl
theorem Kpo:Kfb Koy=true:=by kernel_rfl
theorem Kpp:Kfb Kp0=true:=by kernel_rfl
theorem Kpq:Kfb Kp2=true:=by kernel_rfl
theorem Kpr:Kfb Kp4=true:=by kernel_rfl
theorem Kps:Kfb Kp6=true:=by kernel_rfl
theorem Kpt:Kfb Kp8=true:=by kernel_rfl
theorem Kpu:Kfb Kpa=true:=by kernel_rfl
theorem Kpv:Kfb Kpc=true:=by kernel_rfl
structure Kpw (s:K00) (ctx:List (List Int)) (t:Kaw) (y:Kbl):Prop where
 ok:tOk (gN s.fSize true) (yN s.fSize true) ctx.length t=true
 cx:∀ q ∈ ctx,TyS s q
 bd:ctx.length + 2 * tsz t ≤ 1000000
 im:Kcr (⟨s⟩,ctx,t)=some y
 fa:y.ffault=0
section
variable {s:K00} {n:Nat} (hs:Kgj s n) {ctx:List (List Int)} {t:Kaw} {y:Kbl}
include hs
theorem Kpw.tell (g:Kpw s ctx t y):∃ x,Kjf s n ctx t x y∧x.ffault=0∧x.fty=y.fty∧TyS s y.fty:=by
 obtain ⟨x,y',r⟩:=Kkn hs (tsz t) t ctx (Nat.le_refl _) g.ok g.cx g.bd
 have e:=r.im
 rw [g.im] at e
 cases e
 have hf:x.ffault=0:=by rw [← r.fa]; exact g.fa
 exact ⟨x,r,hf,r.ty.symm,by rw [r.ty]; exact (r.gd hf).1⟩
theorem Kpw.kid (g:Kpw s ctx t y) {i:Nat} {k:Kaw} (hk:t.fKids[i]?=some k):∃ yk,y.fkids[i]?=some yk∧Kpw s (Kjd t i y.fkids ++ ctx) k yk∧(Kjd t i y.fkids).length=Keo t.fOp i:=by
 obtain ⟨x,r,hf,_⟩:=g.tell hs
 obtain ⟨yk,h1,h2⟩:=(r.kd hf).2 i k hk
 obtain ⟨hi,hg⟩:=List.getElem?_eq_some_iff.1 hk
 have hm:k ∈ t.fKids:=hg ▸ List.getElem_mem hi
 have h3:=Kfy t.fKids t.fOp ctx.length 0 i hi (Kex g.ok).2
 rw [hg,Nat.zero_add] at h3
 have h4:=Kfw hm
 have h5:=Kep t.fOp (i:Int)
 have h6:=g.bd
 have h7:=h2.ln
 refine ⟨yk,h1,⟨?_,?_,?_,h2.im,h2.fa⟩,h7⟩
 ·rw [List.length_append,h7,Nat.add_comm]; exact h3
 ·intro q hq
  rcases List.mem_append.1 hq with hq | hq
  ·exact h2.ty q hq
  ·exact g.cx q hq
 ·rw [List.length_append,h7]; omega
theorem Kpw.first (g:Kpw s ctx t y) (h0:0 < t.fKids.length) (ha:Keo t.fOp ((0:Nat):Int)=0):∃ k0 y0 x0 l,t.fKids[0]?=some k0∧y.fkids=y0 :: l∧(Kjf s n ctx k0 x0 y0∧x0.ffault=0)∧Kbx (s,ctx,k0)=some x0∧x0.fty=y0.fty∧TyS s y0.fty:=by
 have hk:t.fKids[0]?=some t.fKids[0]:=List.getElem?_eq_getElem h0
 obtain ⟨y0,h1,h2,h3⟩:=g.kid hs hk
 rw [ha] at h3
 rw [List.eq_nil_of_length_eq_zero h3,List.nil_append] at h2
 obtain ⟨x0,r,hf,h4,h5⟩:=h2.tell hs
 cases e:y.fkids with
 | nil=>rw [e] at h1; cases h1
 | cons z l =>
  rw [e] at h1
  cases h1
  exact ⟨_,_,x0,l,hk,rfl,⟨r,hf⟩,r.sp,h4,h5⟩
end
theorem Kpx (a:List Int) (ha:a.length ≤ 1099511627776):∀ (k n:Nat),n + k=a.length→Kag (a,a,(n:Int))=some (.inl ()):=by
 intro k
 induction k with
 | zero =>
  intro n hn
  rw [Kag.eq_def]
  simp only
  rw [Kcx (by omega)]; rfl
 | succ k ih =>
  intro n hn
  rw [Kag.eq_def]
  simp only
  rw [Kcw (by omega),if_pos rfl,Kcu (by omega),bs,bs,Kcy,if_neg (by decide),Kcv (by omega),ih (n + 1) (by omega)]
theorem Kpy (a:List Int) (ha:a.length ≤ 1099511627776):Kaj (a,a)=some true:=by
 unfold Kaj
 simp only
 rw [Kcy,if_neg (by decide),show (0:Int)=((0:Nat):Int) from rfl,Kpx a ha a.length 0 (by omega),bs]
end Go.Am
