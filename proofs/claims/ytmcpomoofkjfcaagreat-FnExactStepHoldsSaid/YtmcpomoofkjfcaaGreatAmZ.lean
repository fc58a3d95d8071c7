/- Own rows that are given up: from then on they are only read (frozen). -/
import Derived.Test.YtmcpomoofkjfcaaGreatAmU
namespace Go.Am
open Go.RowKit

mutual
def frz (k:Nat) (y:AV):AV→AV
 | .rs id=>bif Nat.beq id k then y else .rs id
 | .agg cs=>.agg (Qe4 k y cs)
 | .tup cs=>.tup (Qe4 k y cs)
 | .fn f cs=>.fn f (Qe4 k y cs)
 | x=>x
def Qe4 (k:Nat) (y:AV):List AV→List AV
 | []=>[]
 | x :: xs=>frz k y x :: Qe4 k y xs
end
theorem Qe5 (k:Nat) (y:AV) (l:List AV):Qe4 k y l=l.map (frz k y):=by induction l <;> simp_all [Qe4]
theorem Qe6 (k:Nat) (y:AV) (l:List AV):(Qe4 k y l).length=l.length:=by simp [Qe5]
theorem Qe7 (k:Nat) (y:AV) (l:List AV) (i:Nat):av (Qe4 k y l) i=frz k y (av l i):=by
 simp only [Qe5,av,List.getD_eq_getElem?_getD,List.getElem?_map]
 cases l[i]? <;> simp [frz]
theorem Q00.frz {w:World} {Sh Sh':Nat→Prop} {β:Nat→Value} {k:Nat} {y:AV} (hSh:∀ b,Sh b→Sh' b) {v:Value} {x:AV} (h:Q00 w Sh v x):Q0f w Sh' β v (frz k y x):=by
 induction h with
 | undef v=>exact .base _ _ (.undef v)
 | int k n=>exact .base _ _ (.int k n)
 | bool b=>exact .base _ _ (.bool b)
 | str s=>exact .base _ _ (.str s)
 | nils=>exact .base _ _ .nils
 | nilp=>exact .base _ _ .nilp
 | agg c cs hs _ ih=>exact .agg c _ (by rw [Qe6]; exact hs) (fun i hi=>by rw [Qe6] at hi; rw [Qe7]; exact ih i hi)
 | tup c cs hs _ ih=>exact .tup c _ (by rw [Qe6]; exact hs) (fun i hi=>by rw [Qe6] at hi; rw [Qe7]; exact ih i hi)
 | sl0 a c=>exact .base _ _ (.sl0 a c)
 | sl1 b o c sz xs f hb hc hz hm h _=>exact .base _ _ ((Q00.sl1 b o c sz xs f hb hc hz hm h).mono (fun _ _=>rfl) hSh)
 | ptr b o cs off f hb hm h _=>exact .base _ _ ((Q00.ptr b o cs off f hb hm h).mono (fun _ _=>rfl) hSh)
 | fn f c cs hs _ ih=>exact .fn f c _ (by rw [Qe6]; exact hs) (fun i hi=>by rw [Qe6] at hi; rw [Qe7]; exact ih i hi)
 | nilq b xs h=>exact .base _ _ (.nilq b xs h)
 | fnb f c cs hs h _=>exact .base _ _ ((Q00.fnb f c cs hs h).mono (fun _ _=>rfl) hSh)
theorem Q0f.frz {w:World} {Sh Sh':Nat→Prop} {β:Nat→Value} {k:Nat} {y:AV} (hSh:∀ b,Sh b→Sh' b) (hk:Q00 w Sh' (β k) y) {v:Value} {x:AV} (h:Q0f w Sh β v x):Q0f w Sh' β v (frz k y x):=by
 induction h with
 | base v x h=>exact h.frz hSh
 | agg c cs hs _ ih=>exact .agg c _ (by rw [Qe6]; exact hs) (fun i hi=>by rw [Qe6] at hi; rw [Qe7]; exact ih i hi)
 | tup c cs hs _ ih=>exact .tup c _ (by rw [Qe6]; exact hs) (fun i hi=>by rw [Qe6] at hi; rw [Qe7]; exact ih i hi)
 | fn f c cs hs _ ih=>exact .fn f c _ (by rw [Qe6]; exact hs) (fun i hi=>by rw [Qe6] at hi; rw [Qe7]; exact ih i hi)
 | rs id h =>
  show Q0f w Sh' β (β id) (bif Nat.beq id k then y else .rs id)
  cases hb:Nat.beq id k with
  | false=>exact .rs id h
  | true=>have:=Nat.eq_of_beq_eq_true hb; subst this; exact .base _ _ hk
 | ra id off g h=>exact .ra id off g h
 | ea id sz i off g n c h=>exact .ea id sz i off g n c h
def Qe8 (k:Nat) (y:AV):Q09→Q09
 | .box cs=>.box (Qe4 k y cs)
 | o=>o
theorem SRx.frzG {c:Ctx} {σ:Q0a} {a:Act} {w:World} (h:SRx c σ a w) (k:Nat) (xs:List AV) (hsome:(σ.O k).isSome) (hkk:∀ β fp Sh,SR c β fp Sh σ a w→Q00 w (fun b=>Sh b∨fp k b) (β k) (.sl xs)) :
  SRx c ⟨fun t=>frz k (.sl xs) (σ.T t),fun q=>bif Nat.beq q k then none else (σ.O q).map (Qe8 k (.sl xs))⟩ a w:=by
 obtain ⟨β,fp,Sh,hs⟩:=h
 have hk:Q00 w (fun b=>Sh b∨fp k b) (β k) (.sl xs):=hkk β fp Sh hs
 have hne:∀ q o,(bif Nat.beq q k then none else (σ.O q).map (Qe8 k (.sl xs)))=some o→q ≠ k∧∃ o',σ.O q=some o'∧o=Qe8 k (.sl xs) o':=by
  intro q o h
  cases hb:Nat.beq q k with
  | true=>rw [hb] at h; cases h
  | false =>
   rw [hb,cond_false] at h
   refine ⟨fun e=>(by subst e; rw [Nat.beq_refl] at hb; cases hb),?_⟩
   cases ho:σ.O q with
   | none=>rw [ho] at h; cases h
   | some o'=>rw [ho] at h; exact ⟨o',rfl,(Option.some.inj h).symm⟩
 have hne':∀ q,((bif Nat.beq q k then none else (σ.O q).map (Qe8 k (.sl xs))):Option Q09).isSome→q ≠ k∧(σ.O q).isSome:=by
  intro q h
  obtain ⟨o,ho⟩:=Option.isSome_iff_exists.1 h
  obtain ⟨h1,o',h2,_⟩:=hne q o ho
  exact ⟨h1,by rw [h2]; rfl⟩
 refine ⟨β,fp,fun b=>Sh b∨fp k b,{ df:=hs.df,sz:=hs.sz,tm:=fun t=>(hs.tm t).frz (fun _ hb=>.inl hb) hk,ob:=?_,dj:=?_,fb:=?_,shl:=?_,sh0:=fun b hb=>.inl (hs.sh0 b hb),fr:=hs.fr,pn:=?_ }⟩
 ·intro id o ho
  obtain ⟨_,o',ho',rfl⟩:=hne id o ho
  have:=hs.ob id o' ho'
  cases o' with
  | box cs =>
   obtain ⟨g,e,cc,hv,hg,hsz,ht,hSg⟩:=this
   exact ⟨g,e,cc,hv,hg,by rw [Qe6]; exact hsz,fun i hi=>by rw [Qe6] at hi; rw [Qe7]; exact (ht i hi).frz (fun _ hb=>.inl hb) hk,hSg⟩
  | arr ys=>exact Q01.mono this (fun _ _=>rfl) (fun _ _=>rfl) (fun _ hb=>.inl hb) (fun _ hb=>hb)
  | arx ys i j q=>exact Q0j.mono this (fun _ _=>rfl) (fun _ _=>rfl) (fun _ hb=>.inl hb) (fun _ _=>rfl)
  | ary ys=>exact Q0i.mono this (fun _ _=>rfl) (fun _ _=>rfl) (fun _ hb=>.inl hb) (fun _ hb=>hb)
 ·intro id id' b h1 h2 h3 h4
  exact hs.dj id id' b (hne' id h1).2 (hne' id' h2).2 h3 h4
 ·intro id b h1 h2
  obtain ⟨q1,q2⟩:=hne' id h1
  obtain ⟨p1,p2⟩:=hs.fb id b q2 h2
  exact ⟨fun hb=>hb.elim p1 (fun hb=>q1 (hs.dj id k b q2 hsome h2 hb)),p2⟩
 ·intro b hb
  rcases hb with hb | hb
  ·exact hs.shl b hb
  ·obtain ⟨_,p2,p3⟩:=hs.fb k b hsome hb
   exact ⟨p2,.inr p3⟩
 ·intro q hq hsq
  exact hs.pn q hq (hne' q hsq).2
theorem SRx.frzX {c:Ctx} {σ:Q0a} {a:Act} {w:World} (h:SRx c σ a w) (k:Nat) (xs:List AV) (hO:σ.O k=some (.arr xs)) :
  SRx c ⟨fun t=>frz k (.sl (Q02 xs)) (σ.T t),fun q=>bif Nat.beq q k then none else (σ.O q).map (Qe8 k (.sl (Q02 xs)))⟩ a w :=
 h.frzG k _ (by rw [hO]; rfl) (fun β fp Sh hs=>by
  have hown:Q01 w Sh (fp k) (β k) (.osl xs):=hs.ob k _ hO
  exact hown.share)
theorem Q0i.share {w:World} {Sh S:Nat→Prop} {v:Value} {xs:List AV} (h:Q0i w Sh S v xs):Q00 w (fun b=>Sh b∨S b) v (.sl xs):=by
 rcases h with ⟨rfl,rfl⟩ | ⟨g,c,e,cur,h⟩
 ·exact .sl0 none 0
 ·rw [h.hv]
  refine .sl1 g 0 c 1 xs (fun i j=>cur.getD (i * 1 + j) undef) (.inr h.hSg) h.hc (fun i hi=>by rw [h.h1 _ (Q5o hi)]; rfl) (fun i j hi hj=>by rw [Nat.zero_add]; exact Q07 h.hg _ (by rw [h.hs]; have:=h.hc; omega)) (fun i j hi hj=>?_)
  have e1:=h.h1 _ (Q5o hi)
  rw [e1] at hj ⊢
  have:j=0:=by simp at hj; exact hj
  subst this
  rw [Nat.mul_one,Nat.add_zero]
  exact (h.h i hi).mono (fun _ _=>rfl) (fun _ hb=>.inl hb)
theorem SRx.frzYX {c:Ctx} {σ:Q0a} {a:Act} {w:World} (h:SRx c σ a w) (k:Nat) (xs:List AV) (hO:σ.O k=some (.ary xs)) :
  SRx c ⟨fun t=>frz k (.sl xs) (σ.T t),fun q=>bif Nat.beq q k then none else (σ.O q).map (Qe8 k (.sl xs))⟩ a w :=
 h.frzG k _ (by rw [hO]; rfl) (fun β fp Sh hs=>by
  have hown:Q0i w Sh (fp k) (β k) xs:=hs.ob k _ hO
  exact hown.share)
theorem Qe9 {T:List (Nat × AV)} (f:AV→AV) (hf:f .undef=.undef) (t:Nat):lk .undef (T.map fun p=>(p.1,f p.2)) t=f (lk .undef T t):=by
 induction T with
 | nil=>exact hf.symm
 | cons p T ih =>
  show (bif Nat.beq t p.1 then f p.2 else lk .undef (T.map fun p=>(p.1,f p.2)) t)=f (bif Nat.beq t p.1 then p.2 else lk .undef T t)
  cases Nat.beq t p.1 with
  | true=>rfl
  | false=>exact ih
theorem Qea {O:List (Nat × Q09)} (k:Nat) (f:Q09→Q09) (q:Nat):lkO ((O.filter fun p=>!Nat.beq p.1 k).map fun p=>(p.1,f p.2)) q=(bif Nat.beq q k then none else (lkO O q).map f):=by
 induction O with
 | nil =>
  show none=(bif Nat.beq q k then none else none)
  cases Nat.beq q k <;> rfl
 | cons p O ih =>
  rw [List.filter_cons]
  have e:lkO (p :: O) q=(bif Nat.beq q p.1 then some p.2 else lkO O q):=rfl
  rw [e]
  cases hb:Nat.beq p.1 k with
  | true =>
   rw [if_neg (by simp),ih]
   have hp:=Nat.eq_of_beq_eq_true hb
   cases hq:Nat.beq q k with
   | true=>rfl
   | false =>
    have:Nat.beq q p.1=false:=by rw [hp]; exact hq
    rw [this]; rfl
  | false =>
   rw [if_pos (by simp),List.map_cons]
   have e2:∀ L:List (Nat × Q09),lkO ((p.1,f p.2) :: L) q=(bif Nat.beq q p.1 then some (f p.2) else lkO L q):=fun L=>rfl
   rw [e2,ih]
   cases hq:Nat.beq q p.1 with
   | true =>
    have hp:=Nat.eq_of_beq_eq_true hq
    have:Nat.beq q k=false:=by rw [hp]; exact hb
    rw [this]; rfl
   | false=>rfl
theorem SRx.frzL {c:Ctx} {a:Act} {w:World} {T T':List (Nat × AV)} {O O':List (Nat × Q09)} (k:Nat) {xs xs':List AV} (h:SRx c (mkS T O) a w) (hO:lkO O k=some (.arr xs)) (hs:Q02 xs=xs') (hT:T.map (fun p=>(p.1,frz k (.sl xs') p.2))=T')
  (hO':((O.filter fun p=>!Nat.beq p.1 k).map fun p=>(p.1,Qe8 k (.sl xs') p.2))=O'):SRx c (mkS T' O') a w:=by
 subst hs hT hO'
 have:=h.frzX k xs hO
 refine this.le (fun t=>.inr ?_) (fun q=>.inr ?_)
 ·exact Qe9 (frz k (.sl (Q02 xs))) rfl t
 ·exact Qea k (Qe8 k (.sl (Q02 xs))) q
theorem SRx.frzC {c:Ctx} {a:Act} {w:World} {T:List (Nat × AV)} {O:List (Nat × Q09)} (k:Nat) {xs xs':List AV} (h:SRx c (mkS T O) a w) (hO:lkO O k=some (.arr xs)) (hs:Q02 xs=xs') :
  SRx c (mkS (T.map fun p=>(p.1,frz k (.sl xs') p.2)) ((O.filter fun p=>!Nat.beq p.1 k).map fun p=>(p.1,Qe8 k (.sl xs') p.2))) a w:=h.frzL k hO hs rfl rfl
theorem SRx.frzYL {c:Ctx} {a:Act} {w:World} {T T':List (Nat × AV)} {O O':List (Nat × Q09)} (k:Nat) {xs:List AV} (h:SRx c (mkS T O) a w) (hO:lkO O k=some (.ary xs)) (hT:T.map (fun p=>(p.1,frz k (.sl xs) p.2))=T')
  (hO':((O.filter fun p=>!Nat.beq p.1 k).map fun p=>(p.1,Qe8 k (.sl xs) p.2))=O'):SRx c (mkS T' O') a w:=by
 subst hT hO'
 have:=h.frzYX k xs hO
 refine this.le (fun t=>.inr ?_) (fun q=>.inr ?_)
 ·exact Qe9 (frz k (.sl xs)) rfl t
 ·exact Qea k (Qe8 k (.sl xs)) q
end Go.Am
