/- Own variables that are given up: from then on they are only read, through pointers (frozen). -/
import Derived.Test.YtifijafaaljamaaDoorAmZ
namespace Go.Am
open Go.RowKit

mutual
def frb (k:Nat) (y:List AV):AV→AV
 | .ra id off=>bif Nat.beq id k then .ptr y off else .ra id off
 | .agg cs=>.agg (Qfy k y cs)
 | .tup cs=>.tup (Qfy k y cs)
 | .fn f cs=>.fn f (Qfy k y cs)
 | x=>x
def Qfy (k:Nat) (y:List AV):List AV→List AV
 | []=>[]
 | x :: xs=>frb k y x :: Qfy k y xs
end
theorem Qfz (k:Nat) (y:List AV) (l:List AV):Qfy k y l=l.map (frb k y):=by induction l <;> simp_all [Qfy]
theorem Qg0 (k:Nat) (y:List AV) (l:List AV):(Qfy k y l).length=l.length:=by simp [Qfz]
theorem Qg1 (k:Nat) (y:List AV) (l:List AV) (i:Nat):av (Qfy k y l) i=frb k y (av l i):=by
 simp only [Qfz,av,List.getD_eq_getElem?_getD,List.getElem?_map]
 cases l[i]? <;> simp [frb]
theorem Q03.frb {w:World} {Sh Sh':Nat→Prop} {β:Nat→Value} {k:Nat} {y:List AV} (hSh:∀ b,Sh b→Sh' b) {v:Value} {x:AV} (h:Q03 w Sh v x):Q0i w Sh' β v (frb k y x):=by
 induction h with
 | undef v=>exact .base _ _ (.undef v)
 | int k n=>exact .base _ _ (.int k n)
 | bool b=>exact .base _ _ (.bool b)
 | str s=>exact .base _ _ (.str s)
 | nils=>exact .base _ _ .nils
 | nilp=>exact .base _ _ .nilp
 | agg c cs hs _ ih=>exact .agg c _ (by rw [Qg0]; exact hs) (fun i hi=>by rw [Qg0] at hi; rw [Qg1]; exact ih i hi)
 | tup c cs hs _ ih=>exact .tup c _ (by rw [Qg0]; exact hs) (fun i hi=>by rw [Qg0] at hi; rw [Qg1]; exact ih i hi)
 | sl0 a c=>exact .base _ _ (.sl0 a c)
 | sl1 b o c sz xs f hb hc hz hm h _=>exact .base _ _ ((Q03.sl1 b o c sz xs f hb hc hz hm h).mono (fun _ _=>rfl) hSh)
 | ptr b o cs off f hb hm h _=>exact .base _ _ ((Q03.ptr b o cs off f hb hm h).mono (fun _ _=>rfl) hSh)
 | fn f c cs hs _ ih=>exact .fn f c _ (by rw [Qg0]; exact hs) (fun i hi=>by rw [Qg0] at hi; rw [Qg1]; exact ih i hi)
 | nilq b xs h=>exact .base _ _ (.nilq b xs h)
 | raw v h=>exact .base _ _ (.raw v h)
 | err b v h=>exact .base _ _ (.err b v h)
 | fnb f c cs hs h _=>exact .base _ _ ((Q03.fnb f c cs hs h).mono (fun _ _=>rfl) hSh)
theorem Q0i.frb {w:World} {Sh Sh':Nat→Prop} {β:Nat→Value} {k:Nat} {y:List AV} (hSh:∀ b,Sh b→Sh' b) (hk:∀ g off,β k=.pointer (some ⟨g,0,none⟩)→Q03 w Sh' (.pointer (some ⟨g,off,none⟩)) (.ptr y off)) {v:Value} {x:AV} (h:Q0i w Sh β v x) :
  Q0i w Sh' β v (frb k y x):=by
 induction h with
 | base v x h=>exact h.frb hSh
 | agg c cs hs _ ih=>exact .agg c _ (by rw [Qg0]; exact hs) (fun i hi=>by rw [Qg0] at hi; rw [Qg1]; exact ih i hi)
 | tup c cs hs _ ih=>exact .tup c _ (by rw [Qg0]; exact hs) (fun i hi=>by rw [Qg0] at hi; rw [Qg1]; exact ih i hi)
 | fn f c cs hs _ ih=>exact .fn f c _ (by rw [Qg0]; exact hs) (fun i hi=>by rw [Qg0] at hi; rw [Qg1]; exact ih i hi)
 | rs id h=>exact .rs id h
 | ra id off g h =>
  show Q0i w Sh' β _ (bif Nat.beq id k then .ptr y off else .ra id off)
  cases hb:Nat.beq id k with
  | false=>exact .ra id off g h
  | true=>have:=Nat.eq_of_beq_eq_true hb; subst this; exact .base _ _ (hk g off h)
 | ea id sz i off g n c h=>exact .ea id sz i off g n c h
 | cut id lo g n c o h hl hn ho=>exact .cut id lo g n c o h hl hn ho
def Qg2 (k:Nat) (y:List AV):Q0c→Q0c
 | .box cs=>.box (Qfy k y cs)
 | o=>o
theorem SRx.frbX {c:Ctx} {σ:Q0d} {a:Act} {w:World} (h:SRx c σ a w) (k:Nat) (cs:List AV) (hO:σ.O k=some (.box cs)) (hp:cs.all plain=true) :
  SRx c ⟨fun t=>frb k (cs.map nzC) (σ.T t),fun q=>bif Nat.beq q k then none else (σ.O q).map (Qg2 k (cs.map nzC))⟩ a w:=by
 obtain ⟨β,fp,Sh,hs⟩:=h
 have hsome:(σ.O k).isSome:=by rw [hO]; rfl
 obtain ⟨g,e,cc,hv,hg,hsz,ht,hSg⟩:∃ g e c,β k=.pointer (some ⟨g,0,none⟩)∧w.heap[g]?=some (.cells c e (0,0))∧c.size=cs.length∧(∀ i,i < cs.length→Q0i w Sh β (c.getD i undef) (av cs i))∧fp k g:=hs.ob k _ hO
 have hcell:∀ i,i < cs.length→Q03 w (fun b=>Sh b∨fp k b) (cc.getD i undef) (av cs i):=by
  intro i hi
  have hpl:plain (av cs i)=true:=List.all_eq_true.1 hp _ (Q5x hi)
  have key:∀ u y,plain y=true→Q0i w Sh β u y→Q03 w (fun b=>Sh b∨fp k b) u y:=fun u y hy h=>by
   cases h with
   | base _ _ h=>exact h.mono (fun _ _=>rfl) (fun _ hb=>.inl hb)
   | _=>simp [plain] at hy
  exact key _ _ hpl (ht i hi)
 have hk:∀ g' off,β k=.pointer (some ⟨g',0,none⟩)→Q03 w (fun b=>Sh b∨fp k b) (.pointer (some ⟨g',off,none⟩)) (.ptr (cs.map nzC) off):=by
  intro g' off hb
  rw [hv] at hb
  simp only [Value.pointer.injEq,Option.some.injEq,Addr.mk.injEq,and_true] at hb
  subst hb
  have:=Q03.ptr (w:=w) (Sh:=fun b=>Sh b∨fp k b) g 0 (cs.map nzC) off (fun j=>cc.getD j undef) (.inr hSg) (fun j hj=>by rw [List.length_map] at hj; rw [Nat.zero_add]; exact Q0a hg _ (by rw [hsz]; exact hj)) (fun j hj=>by rw [List.length_map] at hj; rw [Q73 _ hj]; exact Qb9 (hcell j hj))
  rw [Nat.zero_add] at this
  exact this
 have hne:∀ q o,(bif Nat.beq q k then none else (σ.O q).map (Qg2 k (cs.map nzC)))=some o→q ≠ k∧∃ o',σ.O q=some o'∧o=Qg2 k (cs.map nzC) o':=by
  intro q o h
  cases hb:Nat.beq q k with
  | true=>rw [hb] at h; cases h
  | false =>
   rw [hb,cond_false] at h
   refine ⟨fun e=>(by subst e; rw [Nat.beq_refl] at hb; cases hb),?_⟩
   cases ho:σ.O q with
   | none=>rw [ho] at h; cases h
   | some o'=>rw [ho] at h; exact ⟨o',rfl,(Option.some.inj h).symm⟩
 have hne':∀ q,((bif Nat.beq q k then none else (σ.O q).map (Qg2 k (cs.map nzC))):Option Q0c).isSome→q ≠ k∧(σ.O q).isSome:=by
  intro q h
  obtain ⟨o,ho⟩:=Option.isSome_iff_exists.1 h
  obtain ⟨h1,o',h2,_⟩:=hne q o ho
  exact ⟨h1,by rw [h2]; rfl⟩
 refine ⟨β,fp,fun b=>Sh b∨fp k b,{ df:=hs.df,sz:=hs.sz,tm:=fun t=>(hs.tm t).frb (fun _ hb=>.inl hb) hk,ob:=?_,dj:=?_,fb:=?_,shl:=?_,sh0:=fun b hb=>.inl (hs.sh0 b hb),fr:=hs.fr,pn:=?_ }⟩
 ·intro id o ho
  obtain ⟨_,o',ho',rfl⟩:=hne id o ho
  have:=hs.ob id o' ho'
  cases o' with
  | box ds =>
   obtain ⟨g,e,cc,hv,hg,hsz,ht,hSg⟩:=this
   exact ⟨g,e,cc,hv,hg,by rw [Qg0]; exact hsz,fun i hi=>by rw [Qg0] at hi; rw [Qg1]; exact (ht i hi).frb (fun _ hb=>.inl hb) hk,hSg⟩
  | arr ys=>exact Q04.mono this (fun _ _=>rfl) (fun _ _=>rfl) (fun _ hb=>.inl hb) (fun _ hb=>hb)
  | arx ys i j q=>exact Q0m.mono this (fun _ _=>rfl) (fun _ _=>rfl) (fun _ hb=>.inl hb) (fun _ _=>rfl)
  | ary ys=>exact Q0l.mono this (fun _ _=>rfl) (fun _ _=>rfl) (fun _ hb=>.inl hb) (fun _ hb=>hb)
 ·intro id id' b h1 h2 h3 h4
  exact hs.dj id id' b (hne' id h1).2 (hne' id' h2).2 h3 h4
 ·intro id b h1 h2
  obtain ⟨q1,q2⟩:=hne' id h1
  obtain ⟨p1,p2⟩:=hs.fb id b q2 h2
  exact ⟨fun hb=>hb.elim p1 (fun hb=>q1 (hs.dj id k b q2 hsome h2 hb)),p2⟩
 ·intro b hb
  rcases hb with hb | hb
  ·exact hs.shl b hb
  ·obtain ⟨_,p2,p3⟩:=hs.fb k b hsome hb
   exact ⟨p2,.inr p3⟩
 ·intro q hq hsq
  exact hs.pn q hq (hne' q hsq).2
theorem SRx.frbC {c:Ctx} {a:Act} {w:World} {T:List (Nat × AV)} {O:List (Nat × Q0c)} (k:Nat) {cs:List AV} (h:SRx c (mkS T O) a w) (hO:lkO O k=some (.box cs)) (hp:cs.all plain=true) :
  SRx c (mkS (T.map fun p=>(p.1,frb k (cs.map nzC) p.2)) ((O.filter fun p=>!Nat.beq p.1 k).map fun p=>(p.1,Qg2 k (cs.map nzC) p.2))) a w:=by
 have:=h.frbX k cs hO hp
 refine this.le (fun t=>.inr ?_) (fun q=>.inr ?_)
 ·exact Qfw (frb k (cs.map nzC)) rfl t
 ·exact Qfx k (Qg2 k (cs.map nzC)) q
theorem SRx.frbL {c:Ctx} {a:Act} {w:World} {T T':List (Nat × AV)} {O O':List (Nat × Q0c)} (k:Nat) {cs:List AV} (h:SRx c (mkS T O) a w) (hO:lkO O k=some (.box cs)) (hp:cs.all plain=true) (hT:T.map (fun p=>(p.1,frb k (cs.map nzC) p.2))=T')
  (hO':((O.filter fun p=>!Nat.beq p.1 k).map fun p=>(p.1,Qg2 k (cs.map nzC) p.2))=O'):SRx c (mkS T' O') a w:=by
 subst hT hO'
 exact h.frbC k hO hp
end Go.Am
