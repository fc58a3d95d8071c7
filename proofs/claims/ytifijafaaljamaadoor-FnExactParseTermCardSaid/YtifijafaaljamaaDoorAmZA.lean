/- Own rows that are given up: from then on they are only read (frozen); a row that is given up as it is made. -/
import Derived.Test.YtifijafaaljamaaDoorAmTY
set_option linter.unusedSimpArgs false
set_option linter.unusedVariables false
namespace Go.Am
open Go.RowKit

mutual
def frz (k:Nat) (y:AV):AV→AV
 | .rs id=>bif Nat.beq id k then y else .rs id
 | .agg cs=>.agg (Qav k y cs)
 | .tup cs=>.tup (Qav k y cs)
 | .fn f cs=>.fn f (Qav k y cs)
 | x=>x
def Qav (k:Nat) (y:AV):List AV→List AV
 | []=>[]
 | x :: xs=>frz k y x :: Qav k y xs
end
theorem Qaw (k:Nat) (y:AV) (l:List AV):Qav k y l=l.map (frz k y):=by induction l <;> simp_all [Qav]
theorem Qax (k:Nat) (y:AV) (l:List AV):(Qav k y l).length=l.length:=by simp [Qaw]
theorem Qay (k:Nat) (y:AV) (l:List AV) (i:Nat):av (Qav k y l) i=frz k y (av l i):=by
 simp only [Qaw,av,List.getD_eq_getElem?_getD,List.getElem?_map]
 cases l[i]? <;> simp [frz]
theorem Q03.frz {w:World} {Sh Sh':Nat→Prop} {β:Nat→Value} {k:Nat} {y:AV} (hSh:∀ b,Sh b→Sh' b) {v:Value} {x:AV} (h:Q03 w Sh v x):Q0i w Sh' β v (frz k y x):=by
 induction h with
 | undef v=>exact .base _ _ (.undef v)
 | int k n=>exact .base _ _ (.int k n)
 | bool b=>exact .base _ _ (.bool b)
 | str s=>exact .base _ _ (.str s)
 | nils=>exact .base _ _ .nils
 | nilp=>exact .base _ _ .nilp
 | agg c cs hs _ ih=>exact .agg c _ (by rw [Qax]; exact hs) (fun i hi=>by rw [Qax] at hi; rw [Qay]; exact ih i hi)
 | tup c cs hs _ ih=>exact .tup c _ (by rw [Qax]; exact hs) (fun i hi=>by rw [Qax] at hi; rw [Qay]; exact ih i hi)
 | sl0 a c=>exact .base _ _ (.sl0 a c)
 | sl1 b o c sz xs f hb hc hz hm h _=>exact .base _ _ ((Q03.sl1 b o c sz xs f hb hc hz hm h).mono (fun _ _=>rfl) hSh)
 | ptr b o cs off f hb hm h _=>exact .base _ _ ((Q03.ptr b o cs off f hb hm h).mono (fun _ _=>rfl) hSh)
 | fn f c cs hs _ ih=>exact .fn f c _ (by rw [Qax]; exact hs) (fun i hi=>by rw [Qax] at hi; rw [Qay]; exact ih i hi)
 | nilq b xs h=>exact .base _ _ (.nilq b xs h)
 | raw v h=>exact .base _ _ (.raw v h)
 | err b v h=>exact .base _ _ (.err b v h)
 | fnb f c cs hs h _=>exact .base _ _ ((Q03.fnb f c cs hs h).mono (fun _ _=>rfl) hSh)
theorem Q0i.frz {w:World} {Sh Sh':Nat→Prop} {β:Nat→Value} {k:Nat} {y:AV} (hSh:∀ b,Sh b→Sh' b) (hk:Q03 w Sh' (β k) y) {v:Value} {x:AV} (h:Q0i w Sh β v x):Q0i w Sh' β v (frz k y x):=by
 induction h with
 | base v x h=>exact h.frz hSh
 | agg c cs hs _ ih=>exact .agg c _ (by rw [Qax]; exact hs) (fun i hi=>by rw [Qax] at hi; rw [Qay]; exact ih i hi)
 | tup c cs hs _ ih=>exact .tup c _ (by rw [Qax]; exact hs) (fun i hi=>by rw [Qax] at hi; rw [Qay]; exact ih i hi)
 | fn f c cs hs _ ih=>exact .fn f c _ (by rw [Qax]; exact hs) (fun i hi=>by rw [Qax] at hi; rw [Qay]; exact ih i hi)
 | rs id h =>
  show Q0i w Sh' β (β id) (bif Nat.beq id k then y else .rs id)
  cases hb:Nat.beq id k with
  | false=>exact .rs id h
  | true=>have:=Nat.eq_of_beq_eq_true hb; subst this; exact .base _ _ hk
 | ra id off g h=>exact .ra id off g h
 | ea id sz i off g n c h=>exact .ea id sz i off g n c h
 | cut id lo g n c o h hl hn ho=>exact .cut id lo g n c o h hl hn ho
def Qaz (k:Nat) (y:AV):Q0c→Q0c
 | .box cs=>.box (Qav k y cs)
 | o=>o
theorem SRx.frzG {c:Ctx} {σ:Q0d} {a:Act} {w:World} (h:SRx c σ a w) (k:Nat) (xs:List AV) (hsome:(σ.O k).isSome) (hkk:∀ β fp Sh,SR c β fp Sh σ a w→Q03 w (fun b=>Sh b∨fp k b) (β k) (.sl xs)) :
  SRx c ⟨fun t=>frz k (.sl xs) (σ.T t),fun q=>bif Nat.beq q k then none else (σ.O q).map (Qaz k (.sl xs))⟩ a w:=by
 obtain ⟨β,fp,Sh,hs⟩:=h
 have hk:Q03 w (fun b=>Sh b∨fp k b) (β k) (.sl xs):=hkk β fp Sh hs
 have hne:∀ q o,(bif Nat.beq q k then none else (σ.O q).map (Qaz k (.sl xs)))=some o→q ≠ k∧∃ o',σ.O q=some o'∧o=Qaz k (.sl xs) o':=by
  intro q o h
  cases hb:Nat.beq q k with
  | true=>rw [hb] at h; cases h
  | false =>
   rw [hb,cond_false] at h
   refine ⟨fun e=>(by subst e; rw [Nat.beq_refl] at hb; cases hb),?_⟩
   cases ho:σ.O q with
   | none=>rw [ho] at h; cases h
   | some o'=>rw [ho] at h; exact ⟨o',rfl,(Option.some.inj h).symm⟩
 have hne':∀ q,((bif Nat.beq q k then none else (σ.O q).map (Qaz k (.sl xs))):Option Q0c).isSome→q ≠ k∧(σ.O q).isSome:=by
  intro q h
  obtain ⟨o,ho⟩:=Option.isSome_iff_exists.1 h
  obtain ⟨h1,o',h2,_⟩:=hne q o ho
  exact ⟨h1,by rw [h2]; rfl⟩
 refine ⟨β,fp,fun b=>Sh b∨fp k b,{ df:=hs.df,sz:=hs.sz,tm:=fun t=>(hs.tm t).frz (fun _ hb=>.inl hb) hk,ob:=?_,dj:=?_,fb:=?_,shl:=?_,sh0:=fun b hb=>.inl (hs.sh0 b hb),fr:=hs.fr,pn:=?_ }⟩
 ·intro id o ho
  obtain ⟨_,o',ho',rfl⟩:=hne id o ho
  have:=hs.ob id o' ho'
  cases o' with
  | box cs =>
   obtain ⟨g,e,cc,hv,hg,hsz,ht,hSg⟩:=this
   exact ⟨g,e,cc,hv,hg,by rw [Qax]; exact hsz,fun i hi=>by rw [Qax] at hi; rw [Qay]; exact (ht i hi).frz (fun _ hb=>.inl hb) hk,hSg⟩
  | arr ys=>exact Q04.mono this (fun _ _=>rfl) (fun _ _=>rfl) (fun _ hb=>.inl hb) (fun _ hb=>hb)
  | arx ys i j q=>exact Q0m.mono this (fun _ _=>rfl) (fun _ _=>rfl) (fun _ hb=>.inl hb) (fun _ _=>rfl)
  | ary ys=>exact Q0l.mono this (fun _ _=>rfl) (fun _ _=>rfl) (fun _ hb=>.inl hb) (fun _ hb=>hb)
 ·intro id id' b h1 h2 h3 h4
  exact hs.dj id id' b (hne' id h1).2 (hne' id' h2).2 h3 h4
 ·intro id b h1 h2
  obtain ⟨q1,q2⟩:=hne' id h1
  obtain ⟨p1,p2⟩:=hs.fb id b q2 h2
  exact ⟨fun hb=>hb.elim p1 (fun hb=>q1 (hs.dj id k b q2 hsome h2 hb)),p2⟩
 ·intro b hb
  rcases hb with hb | hb
  ·exact hs.shl b hb
  ·obtain ⟨_,p2,p3⟩:=hs.fb k b hsome hb
   exact ⟨p2,.inr p3⟩
 ·intro q hq hsq
  exact hs.pn q hq (hne' q hsq).2
theorem SRx.frzX {c:Ctx} {σ:Q0d} {a:Act} {w:World} (h:SRx c σ a w) (k:Nat) (xs:List AV) (hO:σ.O k=some (.arr xs)) :
  SRx c ⟨fun t=>frz k (.sl (Q05 xs)) (σ.T t),fun q=>bif Nat.beq q k then none else (σ.O q).map (Qaz k (.sl (Q05 xs)))⟩ a w :=
 h.frzG k _ (by rw [hO]; rfl) (fun β fp Sh hs=>by
  have hown:Q04 w Sh (fp k) (β k) (.osl xs):=hs.ob k _ hO
  exact hown.share)
mutual
theorem Qb0 (k:Nat) (y:AV):∀ x:AV,k ∉ refs x→frz k y x=x
 | .rs id,h=>by
  rw [frz]
  cases hb:Nat.beq id k with
  | false=>rfl
  | true=>exact absurd (by rw [refs]; simp [Nat.eq_of_beq_eq_true hb]) h
 | .agg cs,h=>by rw [frz,Qb1 k y cs (by rwa [refs] at h)]
 | .tup cs,h=>by rw [frz,Qb1 k y cs (by rwa [refs] at h)]
 | .fn f cs,h=>by rw [frz,Qb1 k y cs (by rwa [refs] at h)]
 | .undef,_ | .int _ _,_ | .bool _,_ | .str _,_ | .nils,_ | .nilp,_ | .sl _,_ | .ptr _ _,_ | .osl _,_ | .optr _,_ | .ra _ _,_ | .ea _ _ _ _,_ | .cut _ _,_ | .fnb _ _,_ | .nilq _,_ | .raw _,_ | .err _,_=>by rw [frz] <;> simp
theorem Qb1 (k:Nat) (y:AV):∀ xs:List AV,k ∉ Q0e xs→Qav k y xs=xs
 | [],_=>by rw [Qav]
 | x :: xs,h=>by
  rw [Q0e,List.mem_append] at h
  rw [Qav,Qb0 k y x (fun q=>h (.inl q)),Qb1 k y xs (fun q=>h (.inr q))]
end
theorem Qb2 (k:Nat) (y:AV) (o:Q0c) (h:k ∉ o.refs):Qaz k y o=o:=by
 cases o with
 | box cs=>rw [Qaz,Qb1 k y cs h]
 | _=>rfl

section
variable {P:Program} {c:Ctx} {o:Oper} {σ:Q0d}
def Qb3 (TI:Nat→Option Q1r) (nt:Nat) (o:Oper) (σ:Q0d) (t len:Nat) (parts:List (Nat × Operand)) (k:Nat):Option Ev :=
 match Q75 TI nt o σ t len parts k false with
 | some ⟨rd,⟨[(d,.rs ka)],[(kb,some (.arr xs))],[kn]⟩,obs⟩=>bif Nat.beq ka k && Nat.beq kb k && Nat.beq kn k then some ⟨rd,⟨[(d,.sl (Q05 xs))],[(k,none)],[k]⟩,obs⟩ else none
 | _=>none
theorem Qb4 {TI:Nat→Option Q1r} (hTI:Q20 P TI) (t len:Nat) (parts:Array (Nat × Operand)) (k:Nat) (ho:o.op=.buildSlice t len parts):Q2o P c o σ (Qb3 TI c.nt o σ t len parts.toList k):=by
 unfold Qb3
 split
 ·rename_i rd d ka kb xs kn obs hev
  refine .ite (fun hb=>?_) (fun _=>.none)
  simp only [Bool.and_eq_true] at hb
  obtain ⟨⟨h1,h2⟩,h3⟩:=hb
  have h1:=Nat.eq_of_beq_eq_true h1
  have h2:=Nat.eq_of_beq_eq_true h2
  have h3:=Nat.eq_of_beq_eq_true h3
  subst h1; subst h2; subst h3
  intro ev he
  simp only [Option.some.injEq] at he
  subst he
  intro hobs τ hag hfr a w hsr K Q hK
  obtain ⟨hm,hO⟩:=hfr _ List.mem_cons_self
  refine Q76 (c:=c) (o:=o) (σ:=σ) hTI t len parts _ false ho _ hev hobs τ hag (fun q hq=>by rw [List.mem_singleton.1 hq]; exact ⟨hm,hO⟩) a w hsr K Q (fun a' w' h=>hK a' w' ?_)
  have hf:=h.frzX kn xs (by simp [Q0d.app,Q0n])
  have e:(⟨fun q=>frz kn (.sl (Q05 xs)) ((τ.app ⟨[(d,.rs kn)],[(kn,some (.arr xs))],[kn]⟩).T q),fun q=>bif Nat.beq q kn then none else ((τ.app ⟨[(d,.rs kn)],[(kn,some (.arr xs))],[kn]⟩).O q).map (Qaz kn (.sl (Q05 xs)))⟩:Q0d)=τ.app ⟨[(d,.sl (Q05 xs))],[(kn,none)],[kn]⟩:=by
   simp only [Q0d.app,Q0n]
   congr 1
   ·funext q
    cases hq:Nat.beq q d with
    | true=>simp [frz]
    | false =>
     simp only [cond_false]
     exact Qb0 _ _ _ (fun hmem=>hm (.inl (.inr ⟨q,hmem⟩)))
   ·funext q
    cases hq:Nat.beq q kn with
    | true=>rfl
    | false =>
     simp only [cond_false]
     cases hoq:τ.O q with
     | none=>rfl
     | some o'=>simp only [Option.map_some]; rw [Qb2 _ _ _ (fun hmem=>hm (.inr ⟨q,o',hoq,hmem⟩))]
  rw [← e]
  exact hf
 ·exact .none
end
end Go.Am
