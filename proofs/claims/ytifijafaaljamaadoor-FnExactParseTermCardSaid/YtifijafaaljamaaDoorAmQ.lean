/- Other views of one state: numbers changed, a nil row as an owned one, what is owned given up to be read; and the rules for code. -/
import Derived.Test.YtifijafaaljamaaDoorAmP
set_option linter.unusedSimpArgs false
set_option linter.unusedVariables false
namespace Go.Am
open Go.RowKit

mutual
def rn (ρ:Nat→Nat):AV→AV
 | .rs id=>.rs (ρ id)
 | .ra id off=>.ra (ρ id) off
 | .ea id sz i off=>.ea (ρ id) sz i off
 | .cut id lo=>.cut (ρ id) lo
 | .agg cs=>.agg (rns ρ cs)
 | .tup cs=>.tup (rns ρ cs)
 | .fn f cs=>.fn f (rns ρ cs)
 | x=>x
def rns (ρ:Nat→Nat):List AV→List AV
 | []=>[]
 | x :: xs=>rn ρ x :: rns ρ xs
end
theorem Qc9 (ρ:Nat→Nat) (l:List AV):(rns ρ l).length=l.length:=by induction l <;> simp_all [rns]
theorem Qca (ρ:Nat→Nat) (l:List AV) (i:Nat):av (rns ρ l) i=rn ρ (av l i):=by
 induction l generalizing i with
 | nil=>simp [rns,av,rn]
 | cons x xs ih =>
  cases i with
  | zero=>rfl
  | succ i=>exact ih i

section
variable {w:World} {Sh:Nat→Prop} {β:Nat→Value} (ρ:Nat→Nat)
mutual
theorem Q0i.rn:∀ (x:AV) (v:Value),Q0i w Sh β v (Am.rn ρ x)→Q0i w Sh (fun k=>β (ρ k)) v x
 | .rs id,v,h=>by
  cases h with
  | base _ _ h=>cases h
  | rs _ h=>exact .rs id h
 | .ra id off,v,h=>by
  cases h with
  | base _ _ h=>cases h
  | ra _ _ g h=>exact .ra id off g h
 | .ea id sz i off,v,h=>by
  cases h with
  | base _ _ h=>cases h
  | ea _ _ _ _ g n c h=>exact .ea id sz i off g n c h
 | .cut id lo,v,h=>by
  cases h with
  | base _ _ h=>cases h
  | cut _ _ g n c o h hl hn ho=>exact .cut id lo g n c o h hl hn ho
 | .agg cs,v,h=>by
  obtain ⟨c,rfl,hs,hh⟩:=Q0i.agg_inv h
  rw [Qc9] at hs hh
  exact .agg c cs hs (fun i hi=>Q0i.rns cs i _ (by have:=hh i hi; rwa [Qca] at this))
 | .tup cs,v,h=>by
  obtain ⟨c,rfl,hs,hh⟩:=Q0i.tup_inv h
  rw [Qc9] at hs hh
  exact .tup c cs hs (fun i hi=>Q0i.rns cs i _ (by have:=hh i hi; rwa [Qca] at this))
 | .fn f cs,v,h=>by
  obtain ⟨c,rfl,hs,hh⟩:=Q0i.fn_inv h
  rw [Qc9] at hs hh
  exact .fn f c cs hs (fun i hi=>Q0i.rns cs i _ (by have:=hh i hi; rwa [Qca] at this))
 | .undef,v,h=>by cases h with | base _ _ h=>exact .base _ _ h
 | .fnb _ _,v,h=>by cases h with | base _ _ h=>exact .base _ _ h
 | .int _ _,v,h=>by cases h with | base _ _ h=>exact .base _ _ h
 | .bool _,v,h=>by cases h with | base _ _ h=>exact .base _ _ h
 | .str _,v,h=>by cases h with | base _ _ h=>exact .base _ _ h
 | .nils,v,h=>by cases h with | base _ _ h=>exact .base _ _ h
 | .nilp,v,h=>by cases h with | base _ _ h=>exact .base _ _ h
 | .sl _,v,h=>by cases h with | base _ _ h=>exact .base _ _ h
 | .ptr _ _,v,h=>by cases h with | base _ _ h=>exact .base _ _ h
 | .osl _,v,h=>by cases h with | base _ _ h=>exact .base _ _ h
 | .optr _,v,h=>by cases h with | base _ _ h=>exact .base _ _ h
 | .nilq _,v,h=>by cases h with | base _ _ h=>exact .base _ _ h
 | .raw _,v,h=>by cases h with | base _ _ h=>exact .base _ _ h
 | .err _,v,h=>by cases h with | base _ _ h=>exact .base _ _ h
theorem Q0i.rns:∀ (cs:List AV) (i:Nat) (v:Value),Q0i w Sh β v (Am.rn ρ (av cs i))→Q0i w Sh (fun k=>β (ρ k)) v (av cs i)
 | [],i,v,h=>by
  have e:av [] i=.undef:=by simp [av]
  rw [e]; exact .base _ _ (.undef _)
 | x :: xs,0,v,h=>Q0i.rn x v h
 | x :: xs,i + 1,v,h=>Q0i.rns xs i v h
end
end

section
variable {c:Ctx} {σ τ:Q0d} {a:Act} {w:World}

theorem SRx.ren (h:SRx c σ a w) (ρ:Nat→Nat) (hT:∀ t,τ.T t=.undef∨rn ρ (τ.T t)=σ.T t)
  (hO:∀ k o,τ.O k=some o→(∃ xs,o=.arr xs∧σ.O (ρ k)=some (.arr xs))∨(∃ xs,o=.ary xs∧σ.O (ρ k)=some (.ary xs))∨∃ cs,o=.box cs∧σ.O (ρ k)=some (.box (rns ρ cs))) (hinj:∀ k k',(τ.O k).isSome→(τ.O k').isSome→ρ k=ρ k'→k=k') (hpin:∀ k,1000 ≤ k→(τ.O k).isSome→ρ k=k):SRx c τ a w:=by
 obtain ⟨β,fp,Sh,h⟩:=h
 have some_of:∀ k,(τ.O k).isSome→(σ.O (ρ k)).isSome:=fun k hs=>by
  cases ho:τ.O k with
  | none=>rw [ho] at hs; cases hs
  | some o =>
   rcases hO k o ho with ⟨_,_,h⟩ | ⟨_,_,h⟩ | ⟨_,_,h⟩ <;> rw [h] <;> rfl
 exact ⟨fun k=>β (ρ k),fun k=>fp (ρ k),Sh,{
  df:=h.df
  sz:=h.sz
  tm:=fun t=>by
   rcases hT t with e | e
   ·rw [e]; exact .base _ _ (.undef _)
   ·have:=h.tm t; rw [← e] at this; exact Q0i.rn ρ _ _ this
  ob:=fun k o ho=>by
   rcases hO k o ho with ⟨xs,rfl,h'⟩ | ⟨xs,rfl,h'⟩ | ⟨cs,rfl,h'⟩
   ·exact h.ob (ρ k) _ h'
   ·exact h.ob (ρ k) _ h'
   ·obtain ⟨g,e,cc,h1,h2,h3,h4,h5⟩:=h.ob (ρ k) _ h'
    rw [Qc9] at h3 h4
    exact ⟨g,e,cc,h1,h2,h3,fun i hi=>Q0i.rns ρ cs i _ (by have:=h4 i hi; rwa [Qca] at this),h5⟩
  dj:=fun k k' b h1 h2 h3 h4=>hinj k k' h1 h2 (h.dj _ _ b (some_of k h1) (some_of k' h2) h3 h4)
  fb:=fun k b h1 h2=>h.fb _ b (some_of k h1) h2
  shl:=h.shl
  sh0:=h.sh0
  fr:=h.fr
  pn:=fun k hz h1=>by
   have:=h.pn (ρ k) (by rw [hpin k hz h1]; exact hz) (some_of k h1)
   rw [hpin k hz h1] at this
   show β (ρ k)=_
   rw [hpin k hz h1]; exact this }⟩

theorem SRx.nilT (h:SRx c σ a w) (t k:Nat) (ht:σ.T t=.nils) (hm:¬ Q0h σ k) (hk:σ.O k=none):SRx c ⟨Q0n [(t,.rs k)] σ.T,Q0n [(k,some (.arr []))] σ.O⟩ a w:=by
 obtain ⟨β,fp,Sh,h⟩:=h
 have h2:=h.reset k [] (.arr []) (.slice none 0 0) (fun _=>False) (.inl hm) (Fr.refl _ w) (.osl0 _) (fun b hb=>hb.elim)
 refine ⟨_,_,Sh,{ h2 with tm:=fun t'=>?_ }⟩
 show Q0i w Sh _ _ (Q0n [(t,.rs k)] σ.T t')
 rw [Q2c]
 split
 ·rename_i e
  subst e
  have h3:=h.tm t'
  rw [ht] at h3
  rw [h3.nils_inv]
  have e3:upd β k (.slice none 0 0) k=.slice none 0 0:=Q4m _ _ _
  have:=Q0i.rs (w:=w) (Sh:=Sh) (β:=upd β k (.slice none 0 0)) k (by rw [e3]; rfl)
  rwa [e3] at this
 ·exact h2.tm t'

theorem SRx.nilB (h:SRx c σ a w) (id j k:Nat) (cs:List AV) (ho:σ.O id=some (.box cs)) (hj:cs[j]?=some .nils) (hm:¬ Q0h σ k) (hk:σ.O k=none) :
  SRx c ⟨σ.T,Q0n [(id,some (.box (cs.set j (.rs k)))),(k,some (.arr []))] σ.O⟩ a w:=by
 obtain ⟨β,fp,Sh,h⟩:=h
 have hne:id ≠ k:=fun e=>by rw [e,hk] at ho; cases ho
 have hjl:j < cs.length:=(List.getElem?_eq_some_iff.1 hj).1
 have h2:=h.reset k [] (.arr []) (.slice none 0 0) (fun _=>False) (.inl hm) (Fr.refl _ w) (.osl0 _) (fun b hb=>hb.elim)
 have hO2:∀ i,Q0n (Q4o k (.arr []) []) σ.O i=if i=k then some (.arr []) else σ.O i:=fun i=>by rw [Q4p]; simp
 have hO3:∀ i,Q0n [(id,some (Q0c.box (cs.set j (.rs k)))),(k,some (.arr []))] σ.O i=if i=id then some (.box (cs.set j (.rs k))) else if i=k then some (.arr []) else σ.O i:=by
  intro i
  simp only [Q0n]
  by_cases e:i=id
  ·subst e; simp
  ·rw [Q2b e,if_neg e]
   by_cases e2:i=k
   ·subst e2; simp
   ·rw [Q2b e2,if_neg e2]; rfl
 have sm:∀ i,(Q0n [(id,some (Q0c.box (cs.set j (.rs k)))),(k,some (.arr []))] σ.O i).isSome→(Q0n (Q4o k (.arr []) []) σ.O i).isSome:=fun i hi=>by
  rw [hO3] at hi; rw [hO2]
  split at hi
  ·rename_i e; subst e; rw [if_neg hne,ho]; rfl
  ·exact hi
 refine ⟨_,_,Sh,{ h2 with ob:=fun i o hio=>?_,dj:=fun i i' b h3 h4=>h2.dj i i' b (sm i h3) (sm i' h4),fb:=fun i b h3=>h2.fb i b (sm i h3),pn:=fun i hz h3=>h2.pn i hz (sm i h3) }⟩
 change Q0n [(id,some (Q0c.box (cs.set j (.rs k)))),(k,some (.arr []))] σ.O i=some o at hio
 rw [hO3] at hio
 split at hio
 ·rename_i e
  subst e
  simp only [Option.some.injEq] at hio
  subst hio
  have hb:=h2.ob i (.box cs) (by show Q0n (Q4o k (.arr []) []) σ.O i=_; rw [hO2,if_neg hne]; exact ho)
  obtain ⟨g,e,cc,h3,h4,h5,h6,h7⟩:=hb
  refine ⟨g,e,cc,h3,h4,by simpa using h5,fun q hq=>?_,h7⟩
  rw [Q78 hjl]
  split
  ·rename_i e2
   subst e2
   have:=h6 q hjl
   have e4:av cs q=.nils:=by simp [av,List.getD_eq_getElem?_getD,hj]
   rw [e4] at this
   rw [this.nils_inv]
   have e3:upd β k (.slice none 0 0) k=.slice none 0 0:=Q4m _ _ _
   have:=Q0i.rs (w:=w) (Sh:=Sh) (β:=upd β k (.slice none 0 0)) k (by rw [e3]; rfl)
   rwa [e3] at this
  ·exact h6 q (by simpa using hq)
 ·refine h2.ob i o ?_
  show Q0n (Q4o k (.arr []) []) σ.O i=some o
  rw [hO2]; exact hio

mutual
def fz (id:Nat) (row:Option (List AV)) (bx:Option (List AV)):AV→AV
 | .rs k=>bif Nat.beq k id then (match row with | some xs=>.sl xs | none=>.undef) else .rs k
 | .ra k off=>bif Nat.beq k id then (match bx with | some cs=>.ptr cs off | none=>.undef) else .ra k off
 | .ea k sz i off=>bif Nat.beq k id then .undef else .ea k sz i off
 | .cut k lo=>bif Nat.beq k id then .undef else .cut k lo
 | .agg cs=>.agg (fzs id row bx cs)
 | .tup cs=>.tup (fzs id row bx cs)
 | .fn f cs=>.fn f (fzs id row bx cs)
 | x=>x
def fzs (id:Nat) (row:Option (List AV)) (bx:Option (List AV)):List AV→List AV
 | []=>[]
 | x :: xs=>fz id row bx x :: fzs id row bx xs
end
theorem Qcb (id:Nat) (row bx:Option (List AV)) (l:List AV):(fzs id row bx l).length=l.length:=by induction l <;> simp_all [fzs]
theorem Qcc (id:Nat) (row bx:Option (List AV)) (l:List AV) (i:Nat):av (fzs id row bx l) i=fz id row bx (av l i):=by
 induction l generalizing i with
 | nil=>simp [fzs,av,fz]
 | cons x xs ih =>
  cases i with
  | zero=>rfl
  | succ i=>exact ih i

theorem Q0i.fz {w:World} {Sh Sh':Nat→Prop} {β:Nat→Value} {id:Nat} {row bx:Option (List AV)} (hS:∀ b,Sh b→Sh' b) (hrow:∀ xs,row=some xs→Q03 w Sh' (β id) (.sl xs))
  (hbx:∀ cs off g,bx=some cs→β id=.pointer (some ⟨g,0,none⟩)→Q03 w Sh' (.pointer (some ⟨g,off,none⟩)) (.ptr cs off)) {v:Value} {x:AV} (h:Q0i w Sh β v x):Q0i w Sh' β v (Am.fz id row bx x):=by
 induction h with
 | base v x h =>
  refine .base v _ ?_
  have:=h.mono (w':=w) (Sh':=Sh') (fun _ _=>rfl) hS
  clear h
  induction this with
  | agg c cs hs _ ih=>exact .agg c _ (by rw [Qcb]; exact hs) (fun i hi=>by rw [Qcc]; exact ih i (by rwa [Qcb] at hi))
  | tup c cs hs _ ih=>exact .tup c _ (by rw [Qcb]; exact hs) (fun i hi=>by rw [Qcc]; exact ih i (by rwa [Qcb] at hi))
  | fn f c cs hs _ ih=>exact .fn f c _ (by rw [Qcb]; exact hs) (fun i hi=>by rw [Qcc]; exact ih i (by rwa [Qcb] at hi))
  | fnb f c cs hs h=>exact .fnb f c cs hs h
  | undef v=>exact .undef v
  | int k n=>exact .int k n
  | bool b=>exact .bool b
  | str s=>exact .str s
  | nils=>exact .nils
  | nilp=>exact .nilp
  | sl0 a c=>exact .sl0 a c
  | sl1 b o c sz xs f hb hc hz hm hr=>exact .sl1 b o c sz xs f hb hc hz hm hr
  | ptr b o cs off f hb hm hr=>exact .ptr b o cs off f hb hm hr
  | nilq b xs h=>exact .nilq b xs h
  | raw v h=>exact .raw v h
  | err b v h=>exact .err b v h
 | agg c cs hs _ ih=>exact .agg c _ (by rw [Qcb]; exact hs) (fun i hi=>by rw [Qcc]; exact ih i (by rwa [Qcb] at hi))
 | tup c cs hs _ ih=>exact .tup c _ (by rw [Qcb]; exact hs) (fun i hi=>by rw [Qcc]; exact ih i (by rwa [Qcb] at hi))
 | fn f c cs hs _ ih=>exact .fn f c _ (by rw [Qcb]; exact hs) (fun i hi=>by rw [Qcc]; exact ih i (by rwa [Qcb] at hi))
 | rs k h =>
  simp only [Am.fz]
  cases hb:Nat.beq k id with
  | false=>exact .rs k h
  | true =>
   have:=Nat.eq_of_beq_eq_true hb
   subst this
   cases hr:row with
   | none=>exact .base _ _ (.undef _)
   | some xs=>exact .base _ _ (hrow xs hr)
 | ra k off g h =>
  simp only [Am.fz]
  cases hb:Nat.beq k id with
  | false=>exact .ra k off g h
  | true =>
   have:=Nat.eq_of_beq_eq_true hb
   subst this
   cases hr:bx with
   | none=>exact .base _ _ (.undef _)
   | some cs=>exact .base _ _ (hbx cs off g hr h)
 | cut k lo g n c o h hl hn ho =>
  simp only [Am.fz]
  cases hb:Nat.beq k id with
  | false=>exact .cut k lo g n c o h hl hn ho
  | true=>exact .base _ _ (.undef _)
 | ea k sz i off g n c h =>
  simp only [Am.fz]
  cases hb:Nat.beq k id with
  | false=>exact .ea k sz i off g n c h
  | true=>exact .base _ _ (.undef _)

def Q0c.fz (id:Nat) (row bx:Option (List AV)):Q0c→Q0c
 | .box cs=>.box (fzs id row bx cs)
 | .arx xs i j k=>.arx xs i j k
 | .arr xs=>.arr xs
 | .ary xs=>.ary xs
def Q0d.fz (σ:Q0d) (id:Nat) (row bx:Option (List AV)):Q0d:=⟨fun t=>Am.fz id row bx (σ.T t),fun k=>bif Nat.beq k id then none else (σ.O k).map (Q0c.fz id row bx)⟩

theorem SRx.fz (h:SRx c σ a w) (id:Nat) (o:Q0c) (ho:σ.O id=some o) (row bx:Option (List AV)) (hr:∀ xs,row=some xs→∃ ys,o=.arr ys∧xs=Q05 ys)
  (hb:∀ cs,bx=some cs→∃ ds,o=.box ds∧ds.all (fun x=>Q7e σ x && (Q5o x).isEmpty)=true∧cs=ds.map (shc σ)):SRx c (σ.fz id row bx) a w:=by
 obtain ⟨β,fp,Sh,h⟩:=h
 have hsome:(σ.O id).isSome:=by rw [ho]; rfl
 have tr:∀ {v x},Q0i w Sh β v x→Q0i w (fun b=>Sh b∨fp id b) β v (Am.fz id row bx x):=fun hx=>by
  refine hx.fz (fun b hb=>.inl hb) (fun xs hxs=>?_) (fun cs off g hcs hg=>?_)
  ·obtain ⟨ys,rfl,rfl⟩:=hr xs hxs
   have:Q04 w Sh (fp id) (β id) (.osl ys):=h.ob id _ ho
   exact this.share
  ·obtain ⟨ds,rfl,hall,rfl⟩:=hb cs hcs
   rw [List.all_eq_true] at hall
   obtain ⟨g',e,cc,hv',hblk,hsz,hds,hfp⟩:=h.ob id _ ho
   rw [hg] at hv'
   simp only [Value.pointer.injEq,Option.some.injEq,Addr.mk.injEq,and_true] at hv'
   subst hv'
   have:=Q03.ptr (w:=w) (Sh:=fun b=>Sh b∨fp id b) g 0 (ds.map (shc σ)) off (fun j=>cc.getD j undef) (.inr hfp)
    (fun j hj=>by rw [Nat.zero_add]; exact Q0a hblk j (by simp at hj; omega))
    (fun j hj=>by
     have hj':j < ds.length:=by simpa using hj
     have h2:=hall _ (Q5x hj')
     simp only [Bool.and_eq_true,List.isEmpty_iff] at h2
     rw [Q73 _ hj']
     exact (Q7k h (hds j hj') h2.1 (fun _ _=>rfl) [] (fun id hid=>by rw [h2.2] at hid; cases hid)).mono (fun _ _=>rfl) (fun b hb=>hb.imp (fun h=>h) (fun ⟨_,h,_⟩=>by cases h)))
   rwa [Nat.zero_add] at this
 have back:∀ k,((σ.fz id row bx).O k).isSome→k ≠ id∧(σ.O k).isSome:=fun k hk=>by
  simp only [Q0d.fz] at hk
  cases hb:Nat.beq k id with
  | true=>rw [hb] at hk; cases hk
  | false =>
   rw [hb] at hk
   simp only [cond_false,Option.isSome_map] at hk
   exact ⟨fun e=>by subst e; simp at hb,hk⟩
 exact ⟨β,fp,fun b=>Sh b∨fp id b,{
  df:=h.df
  sz:=h.sz
  tm:=fun t=>tr (h.tm t)
  ob:=fun k o' ho'=>by
   obtain ⟨hne,hk⟩:=back k (by rw [ho']; rfl)
   simp only [Q0d.fz,Q2b hne,cond_false] at ho'
   cases hσ:σ.O k with
   | none=>rw [hσ] at hk; cases hk
   | some o2 =>
    rw [hσ] at ho'
    simp only [Option.map_some,Option.some.injEq] at ho'
    subst ho'
    have h2:=h.ob k o2 hσ
    cases o2 with
    | arr xs=>exact Q04.mono h2 (fun _ _=>rfl) (fun _ _=>rfl) (fun _ h=>.inl h) (fun _ h=>h)
    | box cs =>
     obtain ⟨g,e,cc,q1,q2,q3,q4,q5⟩:=h2
     exact ⟨g,e,cc,q1,q2,by rw [Qcb]; exact q3,fun i hi=>by rw [Qcc]; exact tr (q4 i (by rwa [Qcb] at hi)),q5⟩
    | arx xs i j k' =>
     obtain ⟨g,c',sz,e,cur,Si,q⟩:=h2
     exact ⟨g,c',sz,e,cur,Si,q.mono (fun _ _=>rfl) (fun _ _=>rfl) (fun _ h=>.inl h)⟩
    | ary xs=>exact Q0l.mono h2 (fun _ _=>rfl) (fun _ _=>rfl) (fun _ h=>.inl h) (fun _ h=>h)
  dj:=fun k k' b h1 h2=>h.dj k k' b (back k h1).2 (back k' h2).2
  fb:=fun k b h1 h2=>by
   obtain ⟨hne,hk⟩:=back k h1
   obtain ⟨q1,q2,q3⟩:=h.fb k b hk h2
   exact ⟨fun hs=>hs.elim q1 (fun h3=>hne (h.dj k id b hk hsome h2 h3)),q2,q3⟩
  shl:=fun b hb=>hb.elim (h.shl b) (fun hb=>by
   obtain ⟨_,q2,q3⟩:=h.fb id b hsome hb
   exact ⟨q2,.inr q3⟩)
  sh0:=fun b hb=>.inl (h.sh0 b hb)
  fr:=h.fr
  pn:=fun k hz h1=>h.pn k hz (back k h1).2 }⟩
end

def Wp (P:Program) (c:Ctx) (code:Code) (Q:Exit→Q0d→Prop) (σ:Q0d):Prop:=∀ a w,SRx c σ a w→code.wp P (fun e a' w'=>∃ σ',Q e σ'∧SRx c σ' a' w') a w

section
variable {P:Program} {c:Ctx} {σ:Q0d} {Q:Exit→Q0d→Prop}

theorem Wp.mono {code:Code} {Q':Exit→Q0d→Prop} (h:Wp P c code Q σ) (hq:∀ e σ',Q e σ'→Q' e σ'):Wp P c code Q' σ :=
 fun a w hs=>wp_mono (h a w hs) (fun e a' w' ⟨σ',h1,h2⟩=>⟨σ',hq e σ' h1,h2⟩)
theorem Wp.skip (h:Q .normal σ):Wp P c .skip Q σ:=fun a w hs=>wp_skip ⟨σ,h,hs⟩
theorem Wp.exit {id:Nat} (h:Q (.exit id) σ):Wp P c (.exit id) Q σ:=fun a w hs=>wp_exit ⟨σ,h,hs⟩
theorem Wp.ret (h:Q .ret σ):Wp P c .ret Q σ:=fun a w hs=>wp_ret ⟨σ,h,hs⟩
theorem Wp.seq {x y:Code} (R:Q0d→Prop) (h:Wp P c x (fun e σ'=>match e with | .normal=>R σ' | e=>Q e σ') σ) (h2:∀ σ',R σ'→Wp P c y Q σ'):Wp P c (.seq x y) Q σ:=by
 intro a w hs
 refine wp_seq (wp_mono (h a w hs) ?_)
 rintro e a' w' ⟨σ',h1,hs'⟩
 cases e with
 | normal=>exact h2 σ' h1 a' w' hs'
 | exit id=>exact ⟨σ',h1,hs'⟩
 | goto l=>exact ⟨σ',h1,hs'⟩
 | ret=>exact ⟨σ',h1,hs'⟩
 | panic ch=>exact ⟨σ',h1,hs'⟩
 | outgrown=>exact ⟨σ',h1,hs'⟩
theorem Wp.cond {x:Operand} {y z:Code} {b:Bool} (hx:opv σ x=.bool b) (h1:b=true→Wp P c y Q σ) (h2:b=false→Wp P c z Q σ):Wp P c (.cond x y z) Q σ:=by
 intro a w hs
 have he:a.eval x=.bool b:=by
  obtain ⟨β,fp,Sh,h⟩:=hs
  have:=h.opd x
  rw [hx] at this
  exact this.bool_inv
 exact wp_cond_split he (fun e=>h1 e a w hs) (fun e=>h2 e a w hs)
theorem Wp.block {id:Nat} {x:Code} (h:Wp P c x (fun e σ'=>match e with | .exit id'=>if id'=id then Q .normal σ' else Q (.exit id') σ' | e=>Q e σ') σ):Wp P c (.block id x) Q σ:=by
 intro a w hs
 refine wp_block (wp_mono (h a w hs) ?_)
 rintro e a' w' ⟨σ',h1,hs'⟩
 cases e with
 | exit id' =>
  simp only [Exit.inBlock]
  simp only at h1
  split
  ·rename_i e; rw [if_pos e] at h1; exact ⟨σ',h1,hs'⟩
  ·rename_i e; rw [if_neg e] at h1; exact ⟨σ',h1,hs'⟩
 | normal=>exact ⟨σ',h1,hs'⟩
 | goto l=>exact ⟨σ',h1,hs'⟩
 | ret=>exact ⟨σ',h1,hs'⟩
 | panic ch=>exact ⟨σ',h1,hs'⟩
 | outgrown=>exact ⟨σ',h1,hs'⟩
theorem Wp.view {code:Code} {τ:Q0d} (hv:∀ a w,SRx c σ a w→SRx c τ a w) (h:Wp P c code Q τ):Wp P c code Q σ:=fun a w hs=>h a w (hv a w hs)
theorem Wp.loop {x:Code} (I:Nat→Q0d→Prop) (n:Nat) (h0:I n σ) (h:∀ n σ,I n σ→Wp P c x (fun e σ'=>match e with | .normal=>∃ m,m < n∧I m σ' | e=>Q e σ') σ):Wp P c (.loop x) Q σ:=by
 intro a w hs
 -- the measure is carried by the state of the machine: by induction on it
 intro b k cs
 have key:∀ n σ a w,I n σ→SRx c σ a w→∃ e a' w',(∃ σ',Q e σ'∧SRx c σ' a' w')∧Arrives P (lone (b.at a (.code x :: .inLoop x :: k)) cs w) b k cs e a' w':=by
  intro n
  induction n using Nat.strongRecOn with
  | _ n ih =>
   intro σ a w hI hs
   obtain ⟨e,a₁,w₁,⟨σ₁,hq,hs₁⟩,harr⟩:=h n σ hI a w hs b (.inLoop x :: k) cs
   cases e with
   | normal =>
    obtain ⟨m,hm,hI₁⟩:=hq
    obtain ⟨e₂,a₂,w₂,hq₂,harr₂⟩:=ih m hm σ₁ a₁ w₁ hI₁ hs₁
    exact ⟨e₂,a₂,w₂,hq₂,.of_steps (Steps.trans harr (.one step_inLoop)) harr₂⟩
   | exit id=>exact ⟨_,a₁,w₁,⟨σ₁,hq,hs₁⟩,.pass (x:=.inLoop x) rfl (fun _ _=>.inl (by simp)) harr⟩
   | goto l=>exact ⟨_,a₁,w₁,⟨σ₁,hq,hs₁⟩,.pass (x:=.inLoop x) rfl (fun _ _=>.inl (by simp)) harr⟩
   | ret=>exact ⟨_,a₁,w₁,⟨σ₁,hq,hs₁⟩,.pass (x:=.inLoop x) rfl (fun _ _=>.inl (by simp)) harr⟩
   | panic ch=>exact ⟨_,a₁,w₁,⟨σ₁,hq,hs₁⟩,.pass (x:=.inLoop x) rfl (fun _ _=>.inl (by simp)) harr⟩
   | outgrown=>exact ⟨_,a₁,w₁,⟨σ₁,hq,hs₁⟩,.pass (x:=.inLoop x) rfl (fun _ _=>.inl (by simp)) harr⟩
 obtain ⟨e,a',w',hq,harr⟩:=key n σ a w h0 hs
 exact ⟨e,a',w',hq,.of_steps (.one step_loop) harr⟩

end
end Go.Am
