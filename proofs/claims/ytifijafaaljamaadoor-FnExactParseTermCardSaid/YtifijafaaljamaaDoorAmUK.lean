/- From a closure's body to what it is held to, where it reads through a captured variable that holds a pointer to another one. -/
import Derived.Test.YtifijafaaljamaaDoorAmUY
set_option linter.unusedSimpArgs false
set_option linter.unusedVariables false
namespace Go.Am
open Go.RowKit

section
variable {P:Program}
def evK (TI:Nat→Option Q1r) (fn:Func) (T:List (Nat × AV)) (O:List (Nat × Q0c)):Option (AV × List AV) :=
 match Qcs TI (mkS T O) fn.results.toList,lkO O 1000,lkO O 1001 with
 | some [r],some (.box [.ra 1001 0]),some (.box cs)=>some (r,cs)
 | _,_,_=>none
def Qg9 (TI:Nat→Option Q1r) (fn:Func) (cs:List AV) (res:AV):Exit→Q0d→Prop:=fun e σ'=>(e=.ret∨e=.normal)∧∃ T O,σ'=mkS T O∧evK TI fn T O=some (res,cs)
theorem Qg9.ret {TI:Nat→Option Q1r} {fn:Func} {T:List (Nat × AV)} {O:List (Nat × Q0c)} {cs:List AV} {res:AV} (h:evK TI fn T O=some (res,cs)):Qg9 TI fn cs res .ret (mkS T O):=⟨.inl rfl,T,O,rfl,h⟩
theorem Qg9.normal {TI:Nat→Option Q1r} {fn:Func} {T:List (Nat × AV)} {O:List (Nat × Q0c)} {cs:List AV} {res:AV} (h:evK TI fn T O=some (res,cs)):Qg9 TI fn cs res .normal (mkS T O):=⟨.inr rfl,T,O,rfl,h⟩

theorem Qb6.of_body {TI:Nat→Option Q1r} (hTI:Q20 P TI) {f:FuncId} {fn:Func} {code:Code} {i:Int} {cs:List AV} {res:AV} (hf:P.funcs[f]?=some fn) (hb:fn.body=some code) (hpr:plain res=true) (hpc:cs.all plain=true) {nt:Nat} (hnt:Nat.beq fn.ntmps nt=true) (hle:Nat.ble 2 nt=true)
  (h:∀ c:Ctx,c.nt=nt→Wp P c code (Qg9 TI fn cs res) (mkS [(0,.int .i64 i),(1,.ra 1000 0)] [(1000,.box [.ra 1001 0]),(1001,.box cs)])):Qb6 P f i cs res:=by
 have hnt:=Nat.eq_of_beq_eq_true hnt
 have hle:=Nat.le_of_ble_eq_true hle
 subst hnt
 rw [List.all_eq_true] at hpc
 intro w Sh b2 g e2 c2 e cc hSh hblk2 hsz2 hc0 hblk hsz hcell hne hS2 hSg
 have hb2lt:b2 < w.heap.size:=(Array.getElem?_eq_some_iff.1 hblk2).1
 have hglt:g < w.heap.size:=(Array.getElem?_eq_some_iff.1 hblk).1
 let vs:List Value:=[.int .i64 i,.pointer (some ⟨b2,0,none⟩)]
 let β:Nat→Value:=fun k=>if k=1000 then .pointer (some ⟨b2,0,none⟩) else .pointer (some ⟨g,0,none⟩)
 let fp:Nat→Nat→Prop:=fun k b=>if k=1000 then b=b2 else b=g
 let c:Ctx:={ w0:=w,M:=fun b=>b=b2∨b=g,Sh0:=Sh,nt:=fn.ntmps,pin:=β,gk:=hSh.g,gm:=fun b hb h=>h.elim (fun e=>hS2 (e ▸ (hSh.g b hb).1)) (fun e=>hSg (e ▸ (hSh.g b hb).1)) }
 let a:Act:={ tmps:=vs.toArray ++ Array.replicate (fn.ntmps - vs.toArray.size) undef,defers:=[] }
 have β0:β 1000=.pointer (some ⟨b2,0,none⟩):=if_pos rfl
 have β1:β 1001=.pointer (some ⟨g,0,none⟩):=if_neg (by decide)
 have hob:∀ k ob,(mkS [(0,.int .i64 i),(1,.ra 1000 0)] [(1000,.box [.ra 1001 0]),(1001,.box cs)]).O k=some ob→(k=1000∧ob=.box [.ra 1001 0])∨(k=1001∧ob=.box cs):=by
  intro k ob ho
  have ho:lkO [(1000,Q0c.box [.ra 1001 0]),(1001,.box cs)] k=some ob:=ho
  have:=Qeb ho
  simp only [List.mem_cons,Prod.mk.injEq,List.not_mem_nil,or_false] at this
  exact this
 have hobs:∀ k,((mkS [(0,.int .i64 i),(1,.ra 1000 0)] [(1000,.box [.ra 1001 0]),(1001,.box cs)]).O k).isSome→k=1000∨k=1001:=fun k hk=>by
  obtain ⟨ob,ho⟩:=Option.isSome_iff_exists.1 hk
  exact (hob k ob ho).imp (·.1) (·.1)
 have hs:SR c β fp Sh (mkS [(0,.int .i64 i),(1,.ra 1000 0)] [(1000,.box [.ra 1001 0]),(1001,.box cs)]) a w:={
  df:=rfl
  sz:=by simp [a,c,vs]; omega
  tm:=fun t=>by
   match t with
   | 0 =>
    have e:a.tmps.getD 0 undef=.int .i64 i:=by simp [a,vs,Array.getD_eq_getD_getElem?,Array.getElem?_append]
    rw [e]; exact .base _ _ (.int .i64 i)
   | 1 =>
    have e:a.tmps.getD 1 undef=.pointer (some ⟨b2,0,none⟩):=by simp [a,vs,Array.getD_eq_getD_getElem?,Array.getElem?_append]
    rw [e]; exact .ra 1000 0 b2 β0
   | t + 2=>exact .base _ _ (.undef _)
  ob:=fun k ob ho=>by
   rcases hob k ob ho with ⟨rfl,rfl⟩ | ⟨rfl,rfl⟩
   ·refine ⟨b2,e2,c2,β0,hblk2,hsz2,fun j hj=>?_,(rfl:b2=b2)⟩
    have:j=0:=by simp at hj; exact hj
    subst this
    rw [hc0]
    exact .ra 1001 0 g β1
   ·exact ⟨g,e,cc,β1,hblk,hsz,fun j hj=>.base _ _ (hcell j hj),(rfl:g=g)⟩
  dj:=fun k k' b h1 h2 h3 h4=>by
   rcases hobs k h1 with rfl | rfl <;> rcases hobs k' h2 with rfl | rfl
   ·rfl
   ·have h3:b=b2:=h3
    have h4:b=g:=h4
    exact absurd (h3.symm.trans h4) hne
   ·have h3:b=g:=h3
    have h4:b=b2:=h4
    exact absurd (h4.symm.trans h3) hne
   ·rfl
  fb:=fun k b h1 h2=>by
   rcases hobs k h1 with rfl | rfl
   ·have h2:b=b2:=h2
    subst h2; exact ⟨hS2,hb2lt,.inr (.inl rfl)⟩
   ·have h2:b=g:=h2
    subst h2; exact ⟨hSg,hglt,.inr (.inr rfl)⟩
  shl:=fun b hb=>⟨hSh.lt b hb,.inl hb⟩
  sh0:=fun b hb=>hb
  fr:=Fr.refl _ w
  pn:=fun k _ _=>rfl }
 refine calls_of_wp hf hb (wp_mono (h c rfl a w ⟨_,_,Sh,hs⟩) ?_)
 rintro en a' w' ⟨σ',⟨he,T,O,rfl,hend⟩,β',fp',Sh',hs'⟩
 unfold evK at hend
 have key:∃ v,(results fn a'.tmps).run P w'=.ok v w'∧∃ (v':Value) (Sh'':Nat→Prop),Ending.returned v=.returned v'∧Qb5 w w' Sh Sh'' b2 g cs v' res:=by
  split at hend
  ·rename_i r cs' hret hO1 hO2
   simp only [Option.some.injEq,Prod.mk.injEq] at hend
   obtain ⟨rfl,rfl⟩:=hend
   obtain ⟨us,hrun,hul,hur⟩:=Qcu hTI hs' _ _ hret
   have hrv:(results fn a'.tmps).run P w'=.ok (if h:us.toArray.size=1 then us.toArray[0] else .tuple us.toArray) w':=by
    have gen:∀ (g:ResultVar→Sem Value),(fn.results.toList.mapM g).run P w'=.ok us w'→(do let vs ← fn.results.mapM g; pure (if h:vs.size=1 then vs[0] else .tuple vs):Sem Value).run P w'=.ok (if h:us.toArray.size=1 then us.toArray[0] else .tuple us.toArray) w':=fun g hg=>by
     rw [Array.mapM_eq_mapM_toList]
     rw [show (List.toArray <$> (fn.results.toList.mapM (m:=Sem) g):Sem _)=(fn.results.toList.mapM (m:=Sem) g) >>= fun l=>pure l.toArray from rfl]
     rw [Sem.run_bind,Sem.run_bind,hg]
     rfl
    exact gen _ hrun
   obtain ⟨u,rfl⟩:∃ u,us=[u]:=by
    match us,hul with
    | [u],_=>exact ⟨u,rfl⟩
   have hu:(results fn a'.tmps).run P w'=.ok u w':=by simpa using hrv
   have hr:Q0i w' Sh' β' u r:=by simpa [av] using hur 0 (by simp)
   have s1:((mkS T O).O 1000).isSome:=by show (lkO O 1000).isSome=true; rw [hO1]; rfl
   have s2:((mkS T O).O 1001).isSome:=by show (lkO O 1001).isSome=true; rw [hO2]; rfl
   have p1:β' 1000=β 1000:=hs'.pn 1000 (by decide) s1
   have p2:β' 1001=β 1001:=hs'.pn 1001 (by decide) s2
   obtain ⟨x1,x2,x3,x4,x5,x6,x7,x8⟩:∃ g e c,β' 1000=.pointer (some ⟨g,0,none⟩)∧w'.heap[g]?=some (.cells c e (0,0))∧c.size=1∧(∀ i,i < 1→Q0i w' Sh' β' (c.getD i undef) (av [AV.ra 1001 0] i))∧fp' 1000 g:=hs'.ob 1000 _ hO1
   obtain ⟨y1,y2,y3,y4,y5,y6,y7,y8⟩:∃ g e c,β' 1001=.pointer (some ⟨g,0,none⟩)∧w'.heap[g]?=some (.cells c e (0,0))∧c.size=cs'.length∧(∀ i,i < cs'.length→Q0i w' Sh' β' (c.getD i undef) (av cs' i))∧fp' 1001 g:=hs'.ob 1001 _ hO2
   rw [p1,β0] at x4
   rw [p2,β1] at y4
   simp only [Value.pointer.injEq,Option.some.injEq,Addr.mk.injEq,and_true] at x4 y4
   subst x4 y4
   have h2:=x7 0 (by decide)
   have hav:av [AV.ra 1001 0] 0=.ra 1001 0:=rfl
   rw [hav] at h2
   obtain ⟨g3,hg3,e3⟩:=h2.ra_inv
   rw [p2,β1] at hg3
   simp only [Value.pointer.injEq,Option.some.injEq,Addr.mk.injEq,and_true] at hg3
   subst hg3
   refine ⟨u,hu,u,Sh',rfl,{ fr:=hs'.fr,sh:=hs'.sh0,shl:=fun b hb=>⟨(hs'.shl b hb).1,?_⟩,res:=Qa0 hr hpr,one:=⟨x2,x3,x5,x6,e3⟩,two:=⟨y2,y3,y5,y6,fun j hj=>Qa0 (y7 j hj) (hpc _ (Q5x hj))⟩ }⟩
   rcases (hs'.shl b hb).2 with h | h | h
   ·exact .inl h
   ·exact .inr h
   ·rcases h with rfl | rfl
    ·exact absurd hb (hs'.fb 1000 _ s1 x8).1
    ·exact absurd hb (hs'.fb 1001 _ s2 y8).1
  ·cases hend
 obtain ⟨v,hv1,hv2⟩:=key
 rcases he with rfl | rfl
 ·exact ⟨hs'.df,v,hv1,hv2⟩
 ·exact ⟨hs'.df,v,hv1,hv2⟩
end
theorem flw {P:Program} {c:Ctx} {code:Code} {Q:Exit→Q0d→Prop} {σ:Q0d} (F:Exit→Q0d→Prop) (h1:Wp P c code F σ) (h2:Wp P c code F σ→Wp P c code Q σ):Wp P c code Q σ:=h2 h1
theorem Qga (x:Int):share (I x)=I x:=rfl
end Go.Am
