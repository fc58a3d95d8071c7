/- A call of a closure that reads through a captured variable that holds a pointer to another one: what it gives is not lent. -/
import Derived.Test.YtifijafaaljamaaDoorAmZA
set_option linter.unusedSimpArgs false
set_option linter.unusedVariables false
namespace Go.Am
open Go.RowKit

section
variable {P:Program} {c:Ctx} {o:Oper} {σ:Q0d}

structure Qb5 (w w':World) (Sh Sh':Nat→Prop) (b2 g:Nat) (cs:List AV) (v:Value) (res:AV):Prop where
 fr:Fr (fun b=>b=b2∨b=g) w w'
 sh:∀ b,Sh b→Sh' b
 shl:∀ b,Sh' b→b < w'.heap.size∧(Sh b∨w.heap.size ≤ b)
 res:Q03 w' Sh' v res
 one:∃ e c2,w'.heap[b2]?=some (.cells c2 e (0,0))∧c2.size=1∧c2.getD 0 undef=.pointer (some ⟨g,0,none⟩)
 two:∃ e cc,w'.heap[g]?=some (.cells cc e (0,0))∧cc.size=cs.length∧∀ j,j < cs.length→Q03 w' Sh' (cc.getD j undef) (av cs j)

def Qb6 (P:Program) (f:FuncId) (i:Int) (cs:List AV) (res:AV):Prop :=
 ∀ (w:World) (Sh:Nat→Prop) (b2 g:Nat) (e2:TypeId) (c2:Array Value) (e:TypeId) (cc:Array Value),Q02 w Sh→w.heap[b2]?=some (.cells c2 e2 (0,0))→c2.size=1→c2.getD 0 undef=.pointer (some ⟨g,0,none⟩) →
  w.heap[g]?=some (.cells cc e (0,0))→cc.size=cs.length→(∀ j,j < cs.length→Q03 w Sh (cc.getD j undef) (av cs j))→b2 ≠ g→¬ Sh b2→¬ Sh g →
  Calls P f #[.int .i64 i,.pointer (some ⟨b2,0,none⟩)] w fun en w'=>∃ (v:Value) (Sh':Nat→Prop),en=.returned v∧Qb5 w w' Sh Sh' b2 g cs v res

def Qb7 (nt:Nat) (o:Oper) (σ:Q0d) (callee:Operand) (x:Operand) (res:AV) (P:Program):Option Ev :=
 match Q7y σ callee,opv σ x,o.dst with
 | some (f,[],[.ra q 0],ct),.int .i64 i,some d =>
  match σ.O q with
  | some (.box [.ra id 0]) =>
   match σ.O id with
   | some (.box cs) =>
    bif Nat.blt d nt && plain res && cs.all plain && !Nat.beq q id then some ⟨⟨ct ++ opr x,[q,id]⟩,⟨[(d,res)],[],[]⟩,[Qb6 P f i cs res,Q80 P f]⟩ else none
   | _=>none
  | _=>none
 | _,_,_=>none

theorem Qb8 (callee x:Operand) (ho:Q7z P o callee [x]) (res:AV):Q2o P c o σ (Qb7 c.nt o σ callee x res P):=by
 unfold Qb7
 split
 ·rename_i f q ct i d hcal hx hd
  split
  ·rename_i id hOq
   split
   ·rename_i cs hOi
    refine .ite (fun hb=>?_) (fun _=>.none)
    simp only [Bool.and_eq_true,Bool.not_eq_true'] at hb
    obtain ⟨⟨⟨hdn,hpr⟩,hpc⟩,hqi⟩:=hb
    have hdn:d < c.nt:=by simpa [Nat.blt_eq] using hdn
    have hqi:q ≠ id:=fun e=>by rw [e,Nat.beq_refl] at hqi; cases hqi
    intro ev he
    simp only [Option.some.injEq] at he
    subst he
    intro hobs τ hag hfr a w hsr K Q hK
    obtain ⟨β,fp,Sh,hs⟩:=hsr
    have hsound:Qb6 P f i cs res:=hobs _ List.mem_cons_self
    have hbody:Q80 P f:=hobs _ (List.mem_cons_of_mem _ List.mem_cons_self)
    obtain ⟨ff,cv,hce,⟨hfs,_⟩,hcs,hcr⟩:=Q84 hs hcal (fun t ht=>hag.1 t (List.mem_append_left _ ht))
    have hff:ff=#[]:=Array.eq_empty_of_size_eq_zero hfs
    subst hff
    have h1:=hs.opd x; rw [Q2k x (fun t h=>hag.1 t (List.mem_append_right _ h)),hx] at h1
    have hτq:τ.O q=some (.box [.ra id 0]):=(hag.2 q (by simp)).trans hOq
    have hτi:τ.O id=some (.box cs):=(hag.2 id (by simp)).trans hOi
    have hcap:=hcr 0 (by simp)
    have hav0:av [AV.ra q 0] 0=.ra q 0:=rfl
    rw [hav0] at hcap
    obtain ⟨b2,hb2,ecap⟩:=hcap.ra_inv
    obtain ⟨b2',e2,c2,hv2,hblk2,hsz2,hcell2,hfp2⟩:=hs.ob q _ hτq
    rw [hb2] at hv2
    simp only [Value.pointer.injEq,Option.some.injEq,Addr.mk.injEq,and_true] at hv2
    subst hv2
    have hc0:=hcell2 0 (by simp)
    have hav1:av [AV.ra id 0] 0=.ra id 0:=rfl
    rw [hav1] at hc0
    obtain ⟨g,hg,ec0⟩:=hc0.ra_inv
    obtain ⟨g',e,cc,hv,hblk,hsz,hcell,hfp⟩:=hs.ob id _ hτi
    rw [hg] at hv
    simp only [Value.pointer.injEq,Option.some.injEq,Addr.mk.injEq,and_true] at hv
    subst hv
    have sq:(τ.O q).isSome:=by rw [hτq]; rfl
    have si:(τ.O id).isSome:=by rw [hτi]; rfl
    have hne:b2 ≠ g:=fun e=>by subst e; exact hqi (hs.dj q id _ sq si hfp2 hfp)
    rw [List.all_eq_true] at hpc
    have hcall:=hsound w Sh b2 g e2 c2 e cc hs.shok hblk2 hsz2 ec0 hblk hsz (fun j hj=>Qa0 (hcell j hj) (hpc _ (Q5x hj))) hne (hs.fb q b2 sq hfp2).1 (hs.fb id g si hfp).1
    unfold Oper.wp
    rw [Q81 ho hce hbody]
    show Calls P f (#[] ++ ([x].map a.eval).toArray ++ cv) w _
    have hcv:cv=#[.pointer (some ⟨b2,0,none⟩)]:=by
     have hs1:cv.size=1:=hcs
     apply Array.ext
     ·simpa using hs1
     ·intro j h1 h2
      have:j=0:=by omega
      subst this
      have:cv.getD 0 undef=cv[0]:=by simp [Array.getD_eq_getD_getElem?,h1]
      rw [← this,ecap]; rfl
    have harr:#[] ++ ([x].map a.eval).toArray ++ cv=#[.int .i64 i,.pointer (some ⟨b2,0,none⟩)]:=by
     rw [hcv]; simp [h1.int_inv]
    rw [harr]
    refine hcall.mono ?_
    rintro en w' ⟨v,Sh',rfl,post⟩
    show K (a.put o.dst v) w'
    rw [hd]
    have tq:∀ b,b=b2∨b=g→Q7w τ fp (fun k=>k=q∨k=id) b:=fun b hb=>by
     rcases hb with rfl | rfl
     ·exact ⟨q,.inl rfl,sq,hfp2⟩
     ·exact ⟨id,.inr rfl,si,hfp⟩
    have hres:=hs.resetG (w':=w') (Sh':=Sh') (β':=β) (fp':=fp) (fun k=>k=q∨k=id) τ.O (fun _ _=>rfl) (fun _ _=>⟨rfl,rfl⟩) (fun _ _=>.inr ⟨rfl,fun h=>h⟩)
     (post.fr.mono (fun b _ h=>tq b h)) post.sh (fun b hb=>⟨(post.shl b hb).1,(post.shl b hb).2.imp (fun h=>h) .inl⟩)
     (fun k ob hk hob=>by
      rcases hk with rfl | rfl
      ·rw [hτq] at hob
       cases hob
       obtain ⟨e',c',p1,p2,p3⟩:=post.one
       refine ⟨b2,e',c',hb2,p1,p2,fun j hj=>?_,hfp2⟩
       have:j=0:=by simp at hj; exact hj
       subst this
       rw [p3]
       exact .ra _ 0 g hg
      ·rw [hτi] at hob
       cases hob
       obtain ⟨e',c',p1,p2,p3⟩:=post.two
       exact ⟨g,e',c',hg,p1,p2,fun j hj=>.base _ _ (p3 j hj),hfp⟩)
     (fun k b hk hsm hb=>by
      obtain ⟨q1,q2,q3⟩:=hs.fb k b hsm hb
      refine ⟨fun h=>(post.shl b h).2.elim q1 (fun h=>by omega),Nat.lt_of_lt_of_le q2 post.fr.size,.inl ⟨k,hk,hsm,hb⟩⟩)
     (fun k k' b _ _ s1 s2 h1 h2=>hs.dj k k' b s1 s2 h1 h2)
    exact hK _ _ ⟨_,_,Sh',hres.put d hdn v res (.base _ _ post.res)⟩
   ·exact .none
  ·exact .none
 ·exact .none
def nzC:AV→AV
 | .nils=>.sl []
 | x=>x
theorem Qb9 {w:World} {Sh:Nat→Prop} {v:Value} {x:AV} (h:Q03 w Sh v x):Q03 w Sh v (nzC x):=by
 cases h with
 | nils=>exact .sl0 none 0
 | undef=>exact .undef _
 | int=>exact .int _ _
 | bool=>exact .bool _
 | str=>exact .str _
 | nilp=>exact .nilp
 | agg c cs hs h=>exact .agg c cs hs h
 | tup c cs hs h=>exact .tup c cs hs h
 | sl0 a c=>exact .sl0 a c
 | sl1 b o c sz xs f hb hc hz hm h=>exact .sl1 b o c sz xs f hb hc hz hm h
 | ptr b o cs off f hb hm h=>exact .ptr b o cs off f hb hm h
 | fn f c cs hs h=>exact .fn f c cs hs h
 | nilq b xs h=>exact .nilq b xs h
 | raw v h=>exact .raw v h
 | err b v h=>exact .err b v h
 | fnb f c cs hs h=>exact .fnb f c cs hs h

theorem SR.giveUp {β:Nat→Value} {fp:Nat→Nat→Prop} {Sh:Nat→Prop} {τ:Q0d} {a:Act} {w:World} (hs:SR c β fp Sh τ a w) (k tx:Nat) (cs:List AV) (hT:τ.T tx=.ra k 0) (hO:τ.O k=some (.box cs)) (hp:cs.all plain=true) :
  SR c β fp (fun b=>Sh b∨fp k b) ⟨Q0n [(tx,.ptr (cs.map nzC) 0)] τ.T,Q0n [(k,none)] τ.O⟩ a w:=by
 have hsome:(τ.O k).isSome:=by rw [hO]; rfl
 obtain ⟨g,e,cc,hv,hg,hsz,ht,hSg⟩:∃ g e c,β k=.pointer (some ⟨g,0,none⟩)∧w.heap[g]?=some (.cells c e (0,0))∧c.size=cs.length∧(∀ i,i < cs.length→Q0i w Sh β (c.getD i undef) (av cs i))∧fp k g:=hs.ob k _ hO
 rw [List.all_eq_true] at hp
 have hne:∀ q o,Q0n [(k,none)] τ.O q=some o→q ≠ k∧τ.O q=some o:=fun q o h=>by
  simp only [Q0n] at h
  cases hb:Nat.beq q k with
  | true=>rw [hb] at h; cases h
  | false=>rw [hb] at h; exact ⟨fun e=>(by subst e; rw [Nat.beq_refl] at hb; cases hb),h⟩
 have hne':∀ q,(Q0n [(k,none)] τ.O q).isSome→q ≠ k∧(τ.O q).isSome:=fun q h=>by
  obtain ⟨o,ho⟩:=Option.isSome_iff_exists.1 h
  exact ⟨(hne q o ho).1,by rw [(hne q o ho).2]; rfl⟩
 refine { df:=hs.df,sz:=hs.sz,tm:=fun t=>?_,ob:=fun q o ho=>?_,dj:=fun q q' b h1 h2=>hs.dj q q' b (hne' q h1).2 (hne' q' h2).2,fb:=fun q b h1 h2=>?_,shl:=fun b hb=>?_,sh0:=fun b hb=>.inl (hs.sh0 b hb),fr:=hs.fr,pn:=fun q hq h=>hs.pn q hq (hne' q h).2 }
 ·simp only [Q0n]
  cases hb:Nat.beq t tx with
  | true =>
   have:=Nat.eq_of_beq_eq_true hb
   subst this
   have h:=hs.tm t
   rw [hT] at h
   obtain ⟨g2,hg2,e2⟩:=h.ra_inv
   rw [hv] at hg2
   simp only [Value.pointer.injEq,Option.some.injEq,Addr.mk.injEq,and_true] at hg2
   subst hg2
   rw [e2]
   have:=Q03.ptr (w:=w) (Sh:=fun b=>Sh b∨fp k b) g 0 (cs.map nzC) 0 (fun j=>cc.getD j undef) (.inr hSg) (fun j hj=>by rw [List.length_map] at hj; rw [Nat.zero_add]; exact Q0a hg _ (by rw [hsz]; exact hj))
    (fun j hj=>by rw [List.length_map] at hj; rw [Q73 _ hj]; exact Qb9 ((Qa0 (ht j hj) (hp _ (Q5x hj))).mono (fun _ _=>rfl) (fun _ hb=>.inl hb)))
   exact .base _ _ this
  | false=>exact (hs.tm t).mono (fun _ _=>rfl) (fun _ hb=>.inl hb) (fun _ _=>rfl)
 ·exact (hs.ob q o (hne q o ho).2).mono (fun _ _=>rfl) (fun _ _=>rfl) (fun _ hb=>.inl hb) (fun _ _=>rfl)
 ·obtain ⟨q1,q2⟩:=hne' q h1
  obtain ⟨p1,p2⟩:=hs.fb q b q2 h2
  exact ⟨fun hb=>hb.elim p1 (fun hb=>q1 (hs.dj q k b q2 hsome h2 hb)),p2⟩
 ·rcases hb with hb | hb
  ·exact hs.shl b hb
  ·obtain ⟨_,p2,p3⟩:=hs.fb k b hsome hb
   exact ⟨p2,.inr p3⟩

def Qba (TI:Nat→Option Q1r) (nt:Nat) (o:Oper) (σ:Q0d) (t len:Nat) (parts:List (Nat × Operand)) (k:Nat):Option Ev :=
 match parts with
 | [(_,.tmp tx)] =>
  match σ.T tx with
  | .ra k0 0 =>
   match σ.O k0 with
   | some (.box cs) =>
    match Q75 TI nt o ⟨Q0n [(tx,.ptr (cs.map nzC) 0)] σ.T,Q0n [(k0,none)] σ.O⟩ t len parts k false with
    | some ev=>bif cs.all plain && !ev.rd.o.contains k0 then some ⟨⟨tx :: ev.rd.t,k0 :: ev.rd.o⟩,⟨ev.wr.t ++ [(tx,.ptr (cs.map nzC) 0)],ev.wr.o ++ [(k0,none)],ev.wr.new⟩,ev.obs⟩ else none
    | none=>none
   | _=>none
  | _=>none
 | _=>none
theorem Qbb {TI:Nat→Option Q1r} (hTI:Q20 P TI) (t len:Nat) (parts:Array (Nat × Operand)) (k:Nat) (ho:o.op=.buildSlice t len parts):Q2o P c o σ (Qba TI c.nt o σ t len parts.toList k):=by
 have ovap:∀ {α:Type} (l m:List (Nat × α)) (f:Nat→α),Q0n (l ++ m) f=Q0n l (Q0n m f):=fun l m f=>funext fun q=>Qa8 l m f q
 unfold Qba
 split
 ·rename_i i0 tx hparts
  split
  ·rename_i k0 hT
   split
   ·rename_i cs hO
    split
    ·rename_i ev0 hev
     refine .ite (fun hb=>?_) (fun _=>.none)
     simp only [Bool.and_eq_true,Bool.not_eq_true'] at hb
     obtain ⟨hp,hnk⟩:=hb
     have hnk:k0 ∉ ev0.rd.o:=fun h=>by rw [List.contains_iff_mem.2 h] at hnk; cases hnk
     intro ev he
     simp only [Option.some.injEq] at he
     subst he
     intro hobs τ hag hfr a w hsr K Q hK
     obtain ⟨β,fp,Sh,hs⟩:=hsr
     have hTτ:τ.T tx=.ra k0 0:=(hag.1 tx List.mem_cons_self).trans hT
     have hOτ:τ.O k0=some (.box cs):=(hag.2 k0 List.mem_cons_self).trans hO
     have hs2:=hs.giveUp k0 tx cs hTτ hOτ hp
     have hstep:=Q76 (c:=c) (o:=o) (σ:=⟨Q0n [(tx,.ptr (cs.map nzC) 0)] σ.T,Q0n [(k0,none)] σ.O⟩) hTI t len parts k false ho ev0 hev hobs
     refine hstep ⟨Q0n [(tx,.ptr (cs.map nzC) 0)] τ.T,Q0n [(k0,none)] τ.O⟩ ⟨fun q hq=>?_,fun q hq=>?_⟩ (fun q hq=>?_) a w ⟨_,_,_,hs2⟩ K Q (fun a' w' h=>hK a' w' ?_)
     ·simp only [Q0n]
      rw [hag.1 q (List.mem_cons_of_mem _ hq)]
     ·simp only [Q0n]
      rw [hag.2 q (List.mem_cons_of_mem _ hq)]
     ·obtain ⟨h1,h2⟩:=hfr q hq
      refine ⟨fun hm=>h1 ?_,?_⟩
      ·rcases hm with (hm | ⟨t',hm⟩) | ⟨id,o',ho',hm⟩
       ·exact .inl (.inl hm)
       ·simp only [Q0n] at hm
        cases hb:Nat.beq t' tx with
        | true=>rw [hb] at hm; cases hm
        | false=>rw [hb] at hm; exact .inl (.inr ⟨t',hm⟩)
       ·simp only [Q0n] at ho'
        cases hb:Nat.beq id k0 with
        | true=>rw [hb] at ho'; cases ho'
        | false=>rw [hb] at ho'; exact .inr ⟨id,o',ho',hm⟩
      ·simp only [Q0n]
       rw [h2]
       cases Nat.beq q k0 <;> rfl
     ·have e:(Q0d.app ⟨Q0n [(tx,.ptr (cs.map nzC) 0)] τ.T,Q0n [(k0,none)] τ.O⟩ ev0.wr)=τ.app ⟨ev0.wr.t ++ [(tx,.ptr (cs.map nzC) 0)],ev0.wr.o ++ [(k0,none)],ev0.wr.new⟩:=by
       simp only [Q0d.app,ovap]
      rw [← e]; exact h
    ·exact .none
   ·exact .none
  ·exact .none
 ·exact .none
end
end Go.Am
