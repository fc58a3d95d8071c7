/- A walk into a tree of the call's own: a part of the objects seen alone, the others put by; a loop from its head on, of worlds. -/
import Derived.Test.YtifijafaaljamaaDoorAmUK
import Derived.Test.YtifijafaaljamaaDoorAmZB
set_option linter.unusedSimpArgs false
set_option linter.unusedVariables false
namespace Go.Am
open Go.RowKit

section
variable {P:Program} {x:Code} {a:Act} {w:World}
def WpR (P:Program) (x:Code) (R:Exit→Act→World→Prop) (a:Act) (w:World):Prop:=∀ (b:Frame) (k:List Item) (cs:List Frame),
 ∃ e a' w',R e a' w'∧Arrives P (lone (b.at a (.code x :: .inLoop x :: k)) cs w) b k cs e a' w'
theorem WpR.mono {R R':Exit→Act→World→Prop} (h:WpR P x R a w) (hq:∀ e a w,R e a w→R' e a w):WpR P x R' a w:=fun b k cs =>
 let ⟨e,a',w',h1,h2⟩:=h b k cs
 ⟨e,a',w',hq _ _ _ h1,h2⟩
theorem WpR.loop {R:Exit→Act→World→Prop} (h:WpR P x R a w):(Code.loop x).wp P R a w:=fun b k cs =>
 let ⟨e,a',w',hq,harr⟩:=h b k cs
 ⟨e,a',w',hq,.of_steps (.one step_loop) harr⟩
theorem WpR.step {R:Exit→Act→World→Prop} (h:x.wp P (fun e a' w'=>match e with | .normal=>WpR P x R a' w' | e=>R e a' w') a w):WpR P x R a w:=by
 intro b k cs
 obtain ⟨e,a₁,w₁,hq,harr⟩:=h b (.inLoop x :: k) cs
 cases e with
 | normal =>
  obtain ⟨e₂,a₂,w₂,hq₂,harr₂⟩:=hq b k cs
  exact ⟨e₂,a₂,w₂,hq₂,.of_steps (Steps.trans harr (.one step_inLoop)) harr₂⟩
 | exit id=>exact ⟨_,a₁,w₁,hq,.pass (x:=.inLoop x) rfl (fun _ _=>.inl (by simp)) harr⟩
 | goto l=>exact ⟨_,a₁,w₁,hq,.pass (x:=.inLoop x) rfl (fun _ _=>.inl (by simp)) harr⟩
 | ret=>exact ⟨_,a₁,w₁,hq,.pass (x:=.inLoop x) rfl (fun _ _=>.inl (by simp)) harr⟩
 | panic ch=>exact ⟨_,a₁,w₁,hq,.pass (x:=.inLoop x) rfl (fun _ _=>.inl (by simp)) harr⟩
 | outgrown=>exact ⟨_,a₁,w₁,hq,.pass (x:=.inLoop x) rfl (fun _ _=>.inl (by simp)) harr⟩

def Qgb (P:Program) (c:Ctx) (i:Nat) (y:Code) (τ:Q0d):Exit→Act→World→Prop:=fun e a w=>e=.exit i∧y.wp P (fun e a w=>e=.normal∧SRx c τ a w) a w
theorem Qgb.mono {c c':Ctx} {i:Nat} {y:Code} {τ τ':Q0d} (h:∀ a w,SRx c τ a w→SRx c' τ' a w) {e:Exit} {a:Act} {w:World} (hd:Qgb P c i y τ e a w):Qgb P c' i y τ' e a w :=
 ⟨hd.1,wp_mono hd.2 (fun _ _ _ q=>⟨q.1,h _ _ q.2⟩)⟩
def Qgc (P:Program) (c:Ctx) (x:Code) (i:Nat) (y:Code) (τ:Q0d):Exit→Q0d→Prop
 | .normal,σ=>∀ a w,SRx c σ a w→WpR P x (Qgb P c i y τ) a w
 | .exit j,σ=>j=i∧Wp P c y (Qe7 c .normal τ) σ
 | _,_=>False
theorem Qgc.exit {c:Ctx} {i:Nat} {y:Code} {σ τ:Q0d} (h:Wp P c y (Qe7 c .normal τ) σ):Qgc P c x i y τ (.exit i) σ:=⟨rfl,h⟩
theorem WpR.deep {c:Ctx} {σ τ:Q0d} {i:Nat} {y:Code} (h:Wp P c x (Qgc P c x i y τ) σ) (hs:SRx c σ a w):WpR P x (Qgb P c i y τ) a w:=by
 refine WpR.step (wp_mono (h a w hs) ?_)
 rintro e a' w' ⟨σ',hq,hs'⟩
 cases e with
 | normal=>exact hq a' w' hs'
 | exit j =>
  obtain ⟨rfl,hy⟩:=hq
  refine ⟨rfl,wp_mono (hy a' w' hs') ?_⟩
  rintro e2 a2 w2 ⟨σ2,⟨rfl,hv⟩,hs2⟩
  exact ⟨rfl,hv a2 w2 hs2⟩
 | _=>exact hq.elim
theorem Wp.descend {c:Ctx} {σ:Q0d} {Q:Exit→Q0d→Prop} {code:Code} (τ:Q0d) (i:Nat) (h1:Nat.beq (Qdk code) 1=true) (h2:(Nat.beq (Qdk (cl code)) 3 && Nat.beq (Qdi (cl code)) i)=true) (h3:Nat.beq (Qdk (cl (cl code))) 4=true) (h4:Nat.beq (Qdk (cr code)) 1=true)
  (hD:∀ a w,SRx c σ a w→WpR P (cl (cl (cl code))) (Qgb P c i (cl (cr code)) τ) a w) (hR:Wp P c (cr (cr code)) Q τ):Wp P c code Q σ:=by
 intro a w hs
 simp only [Bool.and_eq_true] at h2
 have hi:=Nat.eq_of_beq_eq_true h2.2
 rw [Qdm h1]
 refine wp_seq ?_
 rw [Qdo h2.1,hi]
 refine wp_block ?_
 rw [Qdp h3]
 refine wp_mono (WpR.loop (hD a w hs)) ?_
 rintro e a1 w1 ⟨rfl,hy⟩
 show Exit.inBlock i _ (.exit i) a1 w1
 simp only [Exit.inBlock,if_true]
 show (cr code).wp P _ a1 w1
 rw [Qdm h4]
 refine wp_seq (wp_mono hy ?_)
 rintro e2 a2 w2 ⟨rfl,hs2⟩
 exact hR a2 w2 hs2
end

section
variable {c:Ctx} {σ:Q0d} {a:Act} {w:World}
theorem Qgd {v:Value} {w:World} {Sh:Nat→Prop} {β:Nat→Value} {x:AV} (h:Q0i w Sh β v x) (hx:Q54 x=true):v.oneCell'=true:=Q55 h hx

theorem SRx.zoom {T T':List (Nat × AV)} {O O':List (Nat × Q0c)} (ρ:List (Nat × Nat)) (h:SRx c (mkS T O) a w)
  (hT:∀ p ∈ T',(p.2=.raw (a.tmps.getD p.1 undef)∧Q54 (lk .undef T p.1)=true)∨rn (rnk ρ) p.2=lk .undef T p.1)
  (hO:∀ p ∈ O',lkO O (rnk ρ p.1)=some (rnO (rnk ρ) p.2)) (hbx:∀ p ∈ O',∀ cs,p.2=.box cs→rns (rnk ρ) cs=cs∧Q0e cs=[])
  (hinj:∀ p ∈ O',∀ q ∈ O',rnk ρ p.1=rnk ρ q.1→p.1=q.1) :
  ∃ c':Ctx,c'.nt=c.nt∧SRx c' (mkS T' O') a w∧∀ (a2:Act) (w2:World) (T2:List (Nat × AV)) (O2:List (Nat × Q0c)),SRx c' (mkS T2 O2) a2 w2 →
   (∀ p ∈ O2,1000 ≤ p.1∧p.2.refs=[]∧(lkO O' p.1).isSome) →
   ∀ (T3:List (Nat × AV)) (O3:List (Nat × Q0c)),
   (∀ p ∈ T3,(p.2=lk .undef T2 p.1∧∀ k ∈ refs p.2,rnk ρ k=k∧(lkO O2 k).isSome)∨(lk .undef T2 p.1=.raw (a.tmps.getD p.1 undef)∧p.2=lk .undef T p.1)) →
   (∀ p ∈ O3,(lkO O p.1=some p.2∧∀ q ∈ O',rnk ρ q.1 ≠ p.1)∨∃ q,(q,p.2) ∈ O2∧lkO O2 q=some p.2∧rnk ρ q=p.1)→SRx c (mkS T3 O3) a2 w2:=by
 obtain ⟨β,fp,Sh,hs⟩:=h
 have some_of:∀ k o,lkO O' k=some o→(lkO O (rnk ρ k)).isSome:=fun k o ho=>by rw [hO _ (Qeb ho)]; rfl
 let M':Nat→Prop:=fun b=>∃ k,(lkO O' k).isSome∧fp (rnk ρ k) b
 refine ⟨⟨w,M',Sh,c.nt,fun k=>β (rnk ρ k),hs.shok.g,fun b hb ⟨k,hk,hf⟩=>(hs.fb (rnk ρ k) b (by obtain ⟨o,ho⟩:=Option.isSome_iff_exists.1 hk; exact some_of k o ho) hf).1 (hs.shok.g b hb).1⟩,rfl,⟨fun k=>β (rnk ρ k),fun k=>fp (rnk ρ k),Sh,{ df:=hs.df,sz:=hs.sz,tm:=?_,ob:=?_,dj:=?_,fb:=?_,shl:=fun b hb=>⟨(hs.shl b hb).1,.inl hb⟩,sh0:=fun b hb=>hb,fr:=Fr.refl _ _,pn:=fun _ _ _=>rfl }⟩,?_⟩
 ·intro t
  rcases Qc6 .undef T' t with h | ⟨p,hp,rfl,h2⟩
  ·show Q0i w Sh _ _ (lk .undef T' t); rw [h]; exact .base _ _ (.undef _)
  ·show Q0i w Sh _ _ (lk .undef T' p.1)
   rw [h2]
   have h3:=hs.tm p.1
   rcases hT p hp with ⟨e,e2⟩ | e
   ·rw [e]; exact .base _ _ (.raw _ (Q55 h3 e2))
   ·have h3:Q0i w Sh β (a.tmps.getD p.1 undef) (lk .undef T p.1):=h3
    rw [← e] at h3; exact Q0i.rn _ _ _ h3
 ·intro k o ho
  have hm:=Qeb (O:=O') ho
  have h1:=hs.ob (rnk ρ k) _ (hO _ hm)
  cases o with
  | arr xs=>exact h1
  | ary xs=>exact h1
  | arx xs i j q=>exact h1
  | box cs =>
   obtain ⟨g,e,cc,q1,q2,q3,q4,q5⟩:=h1
   obtain ⟨e1,e2⟩:=hbx _ hm cs rfl
   rw [e1] at q3 q4
   exact ⟨g,e,cc,q1,q2,q3,fun i hi=>(q4 i hi).mono (fun _ _=>rfl) (fun _ hb=>hb) (fun k hk=>by have:=Q0g hk; rw [e2] at this; cases this),q5⟩
 ·intro k k' b h1 h2 h3 h4
  obtain ⟨o,ho⟩:=Option.isSome_iff_exists.1 h1
  obtain ⟨o',ho'⟩:=Option.isSome_iff_exists.1 h2
  exact hinj _ (Qeb ho) _ (Qeb ho') (hs.dj _ _ b (some_of k o ho) (some_of k' o' ho') h3 h4)
 ·intro k b h1 h2
  obtain ⟨o,ho⟩:=Option.isSome_iff_exists.1 h1
  obtain ⟨q1,q2,_⟩:=hs.fb _ b (some_of k o ho) h2
  exact ⟨q1,q2,.inr ⟨k,h1,h2⟩⟩
 intro a2 w2 T2 O2 h2 hO2 T3 O3 hT3 hO3
 obtain ⟨β2,fp2,Sh2,hs2⟩:=h2
 have hM:∀ b,M' b→¬ Sh b∧b < w.heap.size∧(c.w0.heap.size ≤ b∨c.M b):=fun b ⟨k,h1,h2⟩=>by
  obtain ⟨o,ho⟩:=Option.isSome_iff_exists.1 h1
  exact hs.fb _ b (some_of k o ho) h2
 have hfr:Fr M' w w2:=hs2.fr
 have hSh:∀ b,Sh b→w2.heap[b]?=w.heap[b]?:=fun b hb=>hfr.block b (hs.shl b hb).1 (fun q=>(hM b q).1 hb)
 have hSh2:∀ b,Sh b→Sh2 b:=hs2.sh0
 have hframe:∀ k b,(lkO O k).isSome→(∀ q ∈ O',rnk ρ q.1 ≠ k)→fp k b→¬ M' b:=fun k b h1 h2 h3 ⟨k',h4,h5⟩=>by
  obtain ⟨o,ho⟩:=Option.isSome_iff_exists.1 h4
  exact h2 _ (Qeb ho) (hs.dj _ _ b (some_of k' o ho) h1 h5 h3)
 have hpin:∀ q o,lkO O2 q=some o→β2 q=β (rnk ρ q):=fun q o ho=>hs2.pn q (hO2 _ (Qeb ho)).1 (by show (lkO O2 q).isSome; rw [ho]; rfl)
 have hkey:∀ q o,lkO O2 q=some o→∃ o',(q,o') ∈ O':=fun q o ho=>by
  obtain ⟨o',ho'⟩:=Option.isSome_iff_exists.1 (hO2 _ (Qeb ho)).2.2
  exact ⟨o',Qeb ho'⟩
 -- each object of the outer state: put by,or come back
 have cases3:∀ k o,lkO O3 k=some o→(lkO O k=some o∧∀ q ∈ O',rnk ρ q.1 ≠ k)∨∃ q,lkO O2 q=some o∧rnk ρ q=k:=fun k o ho=>by
  rcases hO3 _ (Qeb ho) with h | ⟨q,_,h2,h3⟩
  ·exact .inl h
  ·exact .inr ⟨q,h2,h3⟩
 let fp3:Nat→Nat→Prop:=fun k b=>(∃ q,(lkO O2 q).isSome∧rnk ρ q=k∧fp2 q b)∨((∀ q ∈ O',rnk ρ q.1 ≠ k)∧fp k b)
 have in3:∀ k b,(lkO O3 k).isSome→fp3 k b→(∃ q o o',lkO O2 q=some o∧(q,o') ∈ O'∧rnk ρ q=k∧fp2 q b)∨((lkO O k).isSome∧(∀ q ∈ O',rnk ρ q.1 ≠ k)∧fp k b):=fun k b h1 h2=>by
  rcases h2 with ⟨q,h3,h4,h5⟩ | ⟨h3,h4⟩
  ·obtain ⟨o,ho⟩:=Option.isSome_iff_exists.1 h3
   obtain ⟨o',ho'⟩:=hkey q o ho
   exact .inl ⟨q,o,o',ho,ho',h4,h5⟩
  ·obtain ⟨o,ho⟩:=Option.isSome_iff_exists.1 h1
   rcases cases3 k o ho with ⟨h5,_⟩ | ⟨q,h5,h6⟩
   ·exact .inr ⟨by rw [h5]; rfl,h3,h4⟩
   ·obtain ⟨o',ho'⟩:=hkey q o h5
    exact absurd h6 (h3 _ ho')
 have hfb2:∀ q o b,lkO O2 q=some o→fp2 q b→¬ Sh2 b∧b < w2.heap.size∧(w.heap.size ≤ b∨M' b):=fun q o b ho hb=>hs2.fb q b (by show (lkO O2 q).isSome; rw [ho]; rfl) hb
 refine ⟨β,fp3,Sh2,{ df:=hs2.df,sz:=hs2.sz,tm:=?_,ob:=?_,dj:=?_,fb:=?_,shl:=?_,sh0:=fun b hb=>hSh2 b (hs.sh0 b hb),fr:=?_,pn:=?_ }⟩
 ·intro t
  show Q0i w2 Sh2 β (a2.tmps.getD t undef) (lk .undef T3 t)
  rcases Qc6 .undef T3 t with h | ⟨p,hp,rfl,h2⟩
  ·rw [h]; exact .base _ _ (.undef _)
  ·rw [h2]
   have h3:Q0i w2 Sh2 β2 (a2.tmps.getD p.1 undef) (lk .undef T2 p.1):=hs2.tm p.1
   rcases hT3 p hp with ⟨e,e2⟩ | ⟨e,e2⟩
   ·rw [← e] at h3
    refine h3.mono (fun _ _=>rfl) (fun _ hb=>hb) (fun k hk=>?_)
    obtain ⟨q1,q2⟩:=e2 k hk
    obtain ⟨o,ho⟩:=Option.isSome_iff_exists.1 q2
    rw [hpin k o ho,q1]
   ·rw [e] at h3
    have ev:a2.tmps.getD p.1 undef=a.tmps.getD p.1 undef:=by
     generalize a2.tmps.getD p.1 undef=v at h3
     generalize a.tmps.getD p.1 undef=v' at h3
     cases h3 with
     | base _ _ h=>cases h; rfl
    have h4:Q0i w Sh β (a.tmps.getD p.1 undef) (lk .undef T p.1):=hs.tm p.1
    rw [ev,e2]
    exact h4.mono hSh hSh2 (fun _ _=>rfl)
 ·intro k o ho
  change lkO O3 k=some o at ho
  rcases cases3 k o ho with ⟨h1,h2⟩ | ⟨q,h1,rfl⟩
  ·have hk:(lkO O k).isSome:=by rw [h1]; rfl
   have:=(hs.ob k o h1).mono (w':=w2) (Sh':=Sh2) (β':=β) hSh (fun b hb=>hfr.block b (hs.fb k b hk hb).2.1 (hframe k b hk h2 hb)) hSh2 (fun _ _=>rfl)
   have e:fp3 k=fp k:=by
    funext b
    refine propext ⟨fun h=>?_,fun h=>.inr ⟨h2,h⟩⟩
    rcases in3 k b (by rw [ho]; rfl) h with ⟨q,_,o',_,h4,h5,_⟩ | ⟨_,_,h⟩
    ·exact absurd h5 (h2 _ h4)
    ·exact h
   rw [e]; exact this
  ·have h3:=hs2.ob q o h1
   rw [hpin q o h1] at h3
   have e:fp3 (rnk ρ q)=fp2 q:=by
    funext b
    refine propext ⟨fun h=>?_,fun h=>.inl ⟨q,by rw [h1]; rfl,rfl,h⟩⟩
    obtain ⟨o',ho'⟩:=hkey q o h1
    rcases in3 _ b (by rw [ho]; rfl) h with ⟨q',_,o'',_,h4,h5,h6⟩ | ⟨_,h4,_⟩
    ·have:=hinj _ h4 _ ho' h5
     simp only at this
     subst this
     exact h6
    ·exact absurd rfl (h4 _ ho')
   rw [e]
   exact h3.mono (fun _ _=>rfl) (fun _ _=>rfl) (fun _ hb=>hb) (fun k hk=>by rw [(hO2 _ (Qeb h1)).2.1] at hk; cases hk)
 ·intro k k' b h1 h2 h3 h4
  rcases in3 k b h1 h3 with ⟨q,o,o',q1,q2,q3,q4⟩ | ⟨q1,q2,q3⟩ <;> rcases in3 k' b h2 h4 with ⟨r,p,p',r1,r2,r3,r4⟩ | ⟨r1,r2,r3⟩
  ·have:=hs2.dj q r b (by show (lkO O2 q).isSome; rw [q1]; rfl) (by show (lkO O2 r).isSome; rw [r1]; rfl) q4 r4
   rw [← q3,← r3,this]
  ·obtain ⟨_,_,z⟩:=hfb2 q o b q1 q4
   have hlt:=(hs.fb k' b r1 r3).2.1
   exact absurd (z.resolve_left (by omega)) (hframe k' b r1 r2 r3)
  ·obtain ⟨_,_,z⟩:=hfb2 r p b r1 r4
   have hlt:=(hs.fb k b q1 q3).2.1
   exact absurd (z.resolve_left (by omega)) (hframe k b q1 q2 q3)
  ·exact hs.dj k k' b q1 r1 q3 r3
 ·intro k b h1 h2
  rcases in3 k b h1 h2 with ⟨q,o,o',q1,q2,q3,q4⟩ | ⟨q1,q2,q3⟩
  ·obtain ⟨z1,z2,z3⟩:=hfb2 q o b q1 q4
   exact ⟨z1,z2,z3.elim (fun z=>.inl (Nat.le_trans hs.fr.size z)) (fun z=>(hM b z).2.2)⟩
  ·obtain ⟨z1,z2,z3⟩:=hs.fb k b q1 q3
   refine ⟨fun z=>?_,Nat.lt_of_lt_of_le z2 hfr.size,z3⟩
   obtain ⟨_,z4⟩:=hs2.shl b z
   rcases z4 with z4 | z4 | z4
   ·exact z1 z4
   ·exact absurd z4 (by show ¬ w.heap.size ≤ b; omega)
   ·exact hframe k b q1 q2 q3 z4
 ·intro b hb
  obtain ⟨z1,z2⟩:=hs2.shl b hb
  refine ⟨z1,?_⟩
  rcases z2 with z2 | z2 | z2
  ·exact (hs.shl b z2).2
  ·exact .inr (.inl (Nat.le_trans hs.fr.size z2))
  ·exact .inr (hM b z2).2.2
 ·exact ⟨hfr.os.trans hs.fr.os,hfr.tape.trans hs.fr.tape,hfr.output.trans hs.fr.output,Nat.le_trans hs.fr.size hfr.size,fun b hb hx=>(hfr.block b (Nat.lt_of_lt_of_le hb hs.fr.size) (fun z=>by
   rcases (hM b z).2.2 with z | z
   ·omega
   ·exact hx z)).trans (hs.fr.block b hb hx)⟩
 ·intro k hk h1
  obtain ⟨o,ho⟩:=Option.isSome_iff_exists.1 h1
  rcases cases3 k o ho with ⟨h2,_⟩ | ⟨q,h2,rfl⟩
  ·exact hs.pn k hk (by show (lkO O k).isSome; rw [h2]; rfl)
  ·obtain ⟨o',ho'⟩:=hkey q o h2
   exact hs.pn _ hk (by show (lkO O (rnk ρ q)).isSome; rw [hO _ ho']; rfl)

mutual
theorem Qge (ρ:Nat→Nat):∀ x:AV,refs x=[]→rn ρ x=x
 | .rs _,h | .ra _ _,h | .ea _ _ _ _,h | .cut _ _,h=>by simp [refs] at h
 | .agg cs,h=>by rw [rn,Qgf ρ cs (by rwa [refs] at h)]
 | .tup cs,h=>by rw [rn,Qgf ρ cs (by rwa [refs] at h)]
 | .fn f cs,h=>by rw [rn,Qgf ρ cs (by rwa [refs] at h)]
 | .undef,_ | .int _ _,_ | .bool _,_ | .str _,_ | .nils,_ | .nilp,_ | .sl _,_ | .ptr _ _,_ | .osl _,_ | .optr _,_ | .fnb _ _,_ | .nilq _,_ | .raw _,_ | .err _,_=>by rw [rn] <;> simp
theorem Qgf (ρ:Nat→Nat):∀ xs:List AV,Q0e xs=[]→rns ρ xs=xs
 | [],_=>by rw [rns]
 | x :: xs,h=>by
  rw [Q0e,List.append_eq_nil_iff] at h
  rw [rns,Qge ρ x h.1,Qgf ρ xs h.2]
end
def boxB:Q0c→Bool
 | .box cs=>(Q0e cs).isEmpty
 | _=>true
theorem SRx.zoomB {T T':List (Nat × AV)} {O O':List (Nat × Q0c)} (ρ:List (Nat × Nat)) (h:SRx c (mkS T O) a w)
  (hT:∀ p ∈ T',(p.2=.raw (a.tmps.getD p.1 undef)∧Q54 (lk .undef T p.1)=true)∨rn (rnk ρ) p.2=lk .undef T p.1)
  (hO:(O'.map fun p=>some (rnO (rnk ρ) p.2))=O'.map fun p=>lkO O (rnk ρ p.1)) (hB:((O'.all fun p=>boxB p.2) && Q6z (O'.map fun p=>rnk ρ p.1))=true) :
  ∃ c':Ctx,c'.nt=c.nt∧SRx c' (mkS T' O') a w∧∀ (a2:Act) (w2:World) (T2:List (Nat × AV)) (O2:List (Nat × Q0c)),SRx c' (mkS T2 O2) a2 w2 →
   (O2.all fun p=>Nat.ble 1000 p.1 && (p.2.refs.isEmpty && (lkO O' p.1).isSome))=true →
   ∀ (T3:List (Nat × AV)) (O3:List (Nat × Q0c)),
   (∀ p ∈ T3,(p.2=lk .undef T2 p.1∧((refs p.2).all fun k=>Nat.beq (rnk ρ k) k && (lkO O2 k).isSome)=true)∨(lk .undef T2 p.1=.raw (a.tmps.getD p.1 undef)∧p.2=lk .undef T p.1)) →
   (∀ p ∈ O3,(lkO O p.1=some p.2∧(O'.all fun q=>!Nat.beq (rnk ρ q.1) p.1)=true)∨∃ q,lkO O2 q=some p.2∧rnk ρ q=p.1)→SRx c (mkS T3 O3) a2 w2:=by
 simp only [Bool.and_eq_true,List.all_eq_true] at hB
 obtain ⟨hbx,hnd⟩:=hB
 have hnd:=Q70 _ hnd
 have hO:=Qea hO
 obtain ⟨c',h1,h2,h3⟩:=h.zoom (T':=T') (O':=O') ρ hT (fun p hp=>(hO p hp).symm) (fun p hp cs hcs=>by
   have:=hbx p hp
   rw [hcs] at this
   have:=List.isEmpty_iff.1 this
   exact ⟨Qgf _ _ this,this⟩) (fun p hp q hq e=>by
   obtain ⟨i,hi,rfl⟩:=List.mem_iff_getElem.1 hp
   obtain ⟨j,hj,rfl⟩:=List.mem_iff_getElem.1 hq
   have:=(List.getElem_inj (i:=i) (j:=j) (h₀:=by simpa using hi) (h₁:=by simpa using hj) hnd).1 (by simpa using e)
   subst this
   rfl)
 refine ⟨c',h1,h2,fun a2 w2 T2 O2 h4 h5 T3 O3 h6 h7=>h3 a2 w2 T2 O2 h4 (fun p hp=>?_) T3 O3 (fun p hp=>?_) (fun p hp=>?_)⟩
 ·rw [List.all_eq_true] at h5
  have:=h5 p hp
  simp only [Bool.and_eq_true,Nat.ble_eq,List.isEmpty_iff] at this
  exact ⟨this.1,this.2.1,this.2.2⟩
 ·refine (h6 p hp).imp (fun ⟨e,q⟩=>⟨e,fun k hk=>?_⟩) (fun h=>h)
  rw [List.all_eq_true] at q
  have:=q k hk
  simp only [Bool.and_eq_true,Nat.beq_eq] at this
  exact this
 ·refine (h7 p hp).imp (fun ⟨e,q⟩=>⟨e,fun r hr er=>?_⟩) (fun ⟨q,e1,e2⟩=>⟨q,Qeb e1,e1,e2⟩)
  rw [List.all_eq_true] at q
  have:=q r hr
  rw [er] at this
  simp at this

theorem SRx.shareX (h:SRx c σ a w) (id:Nat) (xs:List AV) (hO:σ.O id=some (.arr xs)):SRx c ⟨σ.T,Q0n [(id,some (.arr (Q05 xs)))] σ.O⟩ a w:=by
 obtain ⟨β,fp,Sh,hs⟩:=h
 have hsome:(σ.O id).isSome:=by rw [hO]; rfl
 have hown:Q04 w Sh (fp id) (β id) (.osl xs):=hs.ob id _ hO
 have hO3:∀ q,Q0n [(id,some (Q0c.arr (Q05 xs)))] σ.O q=if q=id then some (.arr (Q05 xs)) else σ.O q:=by
  intro q
  simp only [Q0n]
  by_cases e:q=id
  ·subst e; simp
  ·rw [Q2b e,if_neg e]; rfl
 have sm:∀ q,(Q0n [(id,some (Q0c.arr (Q05 xs)))] σ.O q).isSome→(σ.O q).isSome:=fun q hq=>by
  rw [hO3] at hq
  split at hq
  ·rename_i e; subst e; exact hsome
  ·exact hq
 generalize hv:β id=v at hown
 cases hown with
 | val S v x h=>cases h
 | osl0 S =>
  refine ⟨β,fp,Sh,{ hs with ob:=fun q o ho=>?_,dj:=fun q q' b h1 h2=>hs.dj q q' b (sm q h1) (sm q' h2),fb:=fun q b h1=>hs.fb q b (sm q h1),pn:=fun q hz h1=>hs.pn q hz (sm q h1) }⟩
  change Q0n [(id,some (Q0c.arr (Q05 []))) ] σ.O q=some o at ho
  rw [hO3] at ho
  split at ho
  ·rename_i e
   subst e
   simp only [Option.some.injEq] at ho
   subst ho
   show Q04 w Sh (fp q) (β q) (.osl (Q05 []))
   rw [hv]; exact .osl0 _
  ·exact hs.ob q o ho
 | osl S g cp sz e cur xs Si hg hc hc0 hmx hsc hz hr hSg hSS hdd =>
  have hin:∀ i j b,i < xs.length→j < sz→Si i j b→fp id b∧b ≠ g:=hSS
  refine ⟨β,fun q b=>if q=id then b=g else fp q b,fun b=>Sh b∨∃ i j,i < xs.length∧j < sz∧Si i j b,{ df:=hs.df,sz:=hs.sz,tm:=fun t=>(hs.tm t).mono (fun _ _=>rfl) (fun _ hb=>.inl hb) (fun _ _=>rfl),ob:=?_,dj:=?_,fb:=?_,shl:=?_,sh0:=fun b hb=>.inl (hs.sh0 b hb),fr:=hs.fr,pn:=fun q hz h1=>hs.pn q hz (sm q h1) }⟩
  ·intro q o ho
   change Q0n [(id,some (Q0c.arr (Q05 xs)))] σ.O q=some o at ho
   rw [hO3] at ho
   split at ho
   ·rename_i e
    subst e
    simp only [Option.some.injEq] at ho
    subst ho
    show Q04 w _ _ (β q) (.osl (Q05 xs))
    rw [hv]
    have:=Q04.osl (w:=w) (Sh:=fun b=>Sh b∨∃ i j,i < xs.length∧j < sz∧Si i j b) (fun b=>if q=q then b=g else fp q b) g cp sz e cur (Q05 xs) (fun _ _ _=>False) hg (by rw [Q07]; exact hc) (by rw [Q07]; exact hc0) hmx hsc
     (fun i hi=>by rw [Q07] at hi; rw [Q08,Q09,Q07]; exact hz i hi)
     (fun i j hi hj=>by
      rw [Q07] at hi
      rw [Q08,Q09,Q07] at hj
      rw [Q08,Q09,Q08]
      exact .val _ _ _ ((hr i j hi hj).share.mono (fun _ _=>rfl) (fun b hb=>hb.imp (fun z=>z) (fun z=>⟨i,j,hi,(hz i hi) ▸ hj,z⟩))))
     (by simp) (fun _ _ _ _ _ h=>h.elim) (fun _ _ _ _ _ _ _ _ _ h=>h.elim)
    rw [Q07] at this
    exact this
   ·rename_i e
    have e2:(fun b=>if q=id then b=g else fp q b)=fp q:=by funext b; rw [if_neg e]
    rw [e2]
    exact (hs.ob q o ho).mono (fun _ _=>rfl) (fun _ _=>rfl) (fun _ hb=>.inl hb) (fun _ _=>rfl)
  ·intro q q' b h1 h2 h3 h4
   refine hs.dj q q' b (sm q h1) (sm q' h2) ?_ ?_
   ·by_cases e:q=id
    ·rw [if_pos e] at h3; rw [e,h3]; exact hSg
    ·rw [if_neg e] at h3; exact h3
   ·by_cases e:q'=id
    ·rw [if_pos e] at h4; rw [e,h4]; exact hSg
    ·rw [if_neg e] at h4; exact h4
  ·intro q b h1 h3
   have h4:fp q b:=by
    by_cases e:q=id
    ·rw [if_pos e] at h3; rw [e,h3]; exact hSg
    ·rw [if_neg e] at h3; exact h3
   obtain ⟨z1,z2,z3⟩:=hs.fb q b (sm q h1) h4
   refine ⟨fun z=>z.elim z1 (fun ⟨i,j,hi,hj,hb⟩=>?_),z2,z3⟩
   obtain ⟨y1,y2⟩:=hin i j b hi hj hb
   have:=hs.dj q id b (sm q h1) hsome h4 y1
   subst this
   rw [if_pos rfl] at h3
   exact y2 h3
  ·intro b hb
   rcases hb with hb | ⟨i,j,hi,hj,hb⟩
   ·exact hs.shl b hb
   ·obtain ⟨_,z2,z3⟩:=hs.fb id b hsome (hin i j b hi hj hb).1
    exact ⟨z2,.inr z3⟩
theorem SRx.shareL {T:List (Nat × AV)} {O O':List (Nat × Q0c)} (id:Nat) (ko:List Nat) {xs xs':List AV} (h:SRx c (mkS T O) a w) (hO:lkO O id=some (.arr xs)) (hs:Q05 xs=xs')
  (e:Qci (ko.map fun q=>(q,Q0n [(id,some (.arr xs'))] (lkO O) q))=O'):SRx c (mkS T O') a w:=by
 have:=h.shareX id xs hO
 rw [hs] at this
 subst e
 exact this.le (fun t=>.inr rfl) (fun q=>Qcj _ ko q)

theorem Qgg {α:Type} {enc:α→AV} {xs:List α} {lo:Int} {u:Unit} (h:chk (0 < xs.length∧0 ≤ lo∧lo ≤ (xs.length:Int))=some u):0 < (List.map enc xs).length∧0 ≤ lo∧lo ≤ ((List.map enc xs).length:Int):=by
 rw [List.length_map]; exact Qen h
theorem Qgh {α β:Type} (f:α→β) (xs:List α) (l r:Nat):cpy (List.map f xs) l r=List.map f (cpy xs l r):=by
 simp only [cpy,List.map_append,List.map_take,List.map_drop,List.length_map]
theorem Qgi {α:Type} {enc:α→AV} {xs:List α} {l r:Int} {u u':Unit} (hp:∀ v,plain (enc v)=true) (h:chk (0 < xs.length∧0 ≤ l∧l ≤ (xs.length:Int))=some u) (h':chk (0 < xs.length∧0 ≤ r∧r ≤ (xs.length:Int))=some u') :
  (∀ z ∈ List.map enc xs,plain z=true)∧0 < (List.map enc xs).length∧Int.toNat l ≤ (List.map enc xs).length∧Int.toNat r ≤ (List.map enc xs).length:=by
 have h1:=Qen h
 have h2:=Qen h'
 refine ⟨fun z hz=>?_,?_,?_,?_⟩
 ·obtain ⟨v,_,rfl⟩:=List.mem_map.1 hz
  exact hp v
 all_goals rw [List.length_map]; omega
theorem Qgj {α:Type} {enc enc':α→AV} (he:∀ l:List α,Q05 (List.map enc l)=List.map enc' l) {l:List α} {i:Nat} {v:α} {x1:AV} (hx:share x1=enc' v):Q05 ((List.map enc l).set i x1)=List.map enc' (l.set i v):=by
 rw [← he,Q06,Q06,List.map_set,hx]
 apply List.ext_getElem?
 intro j
 rw [List.map_set,List.map_set]
 have e2:share (enc v)=enc' v:=by have:=he [v]; simpa [Q05] using this
 rw [e2]
theorem Qgk {α:Type} {l:List α} {i:Nat} {x:α} (h:l[i]?=some x):l.set i x=l:=by
 apply List.ext_getElem?
 intro j
 rw [List.getElem?_set]
 by_cases e:i=j
 ·subst e
  rw [if_pos rfl,h]
  rw [if_pos (List.getElem?_eq_some_iff.1 h).1]
 ·rw [if_neg e]

def rbx (id k n:Nat):AV→AV
 | .ra q off=>bif Nat.beq q id then .ea k n 0 off else .ra q off
 | x=>x
theorem SRx.boxRow (h:SRx c σ a w) (id k:Nat) (cs:List AV) (hO:σ.O id=some (.box cs)) (hok:Q5p σ (.agg cs)=true) (hnd:Q6z (Q5q (.agg cs))=true) (hm:¬ Q0h σ k) (hk:σ.O k=none) :
  SRx c ⟨fun t=>rbx id k cs.length (σ.T t),Q0n (Q4o k (.arr [pkv true σ (.agg cs)]) (id :: Q5q (.agg cs))) σ.O⟩ a w:=by
 obtain ⟨β,fp,Sh,hs⟩:=h
 have hsome:(σ.O id).isSome:=by rw [hO]; rfl
 have hnd:=Q70 _ hnd
 obtain ⟨g,e,cc,hv,hg,hsz,hc,hSg⟩:=hs.ob id _ hO
 have hlen:cs.length ≤ maxLen∨True:=.inr trivial
 have hrep:Q0i w Sh β (.agg cc) (.agg cs):=.agg cc cs hsz hc
 obtain ⟨r1,r2,r3⟩:=Q74 hs hrep true hok (fun _ _=>rfl)
 have hidn:∀ q ∈ Q5q (.agg cs),q ≠ id:=fun q hq e=>by
  obtain ⟨y,hy,hq⟩:=List.mem_flatMap.1 hq
  simp only [Q5p,List.all_eq_true] at hok
  have:=hok y hy
  cases y <;> simp [Q5o] at hq
  subst hq
  subst e
  simp [Q5n,hO] at this
 have hkid:k ≠ id:=fun e=>by rw [e,hO] at hk; cases hk
 have hres:=hs.reset k (id :: Q5q (.agg cs)) (.arr [pkv true σ (.agg cs)]) (.slice (some ⟨g,0,none⟩) 1 1) (fun b=>fp id b∨∃ j ∈ Q5q (.agg cs),(σ.O j).isSome∧fp j b) (.inl hm) (w':=w) (Fr.refl _ w)
  (by
   show Q04 w Sh _ (.slice (some ⟨g,0,none⟩) 1 1) (.osl [pkv true σ (.agg cs)])
   refine Q04.osl (w:=w) (Sh:=Sh) (fun b=>fp id b∨∃ j ∈ Q5q (.agg cs),(σ.O j).isSome∧fp j b) g 1 cs.length e cc [pkv true σ (.agg cs)] (fun _ j b=>∃ q ∈ Q5o (av cs j),(σ.O q).isSome∧fp q b) hg (by simp) (by simp) (by decide) (by rw [Nat.one_mul]; exact hsz)
    (fun i hi=>by obtain rfl:i=0:=(by simpa using hi); exact r2) (fun i j hi hj=>?_) (.inl hSg) (fun i j b hi hj hb=>?_) (fun i j i' j' b hi hj hi' hj' h1 h2=>?_)
   ·have:i=0:=by simpa using hi
    subst this
    rw [Nat.zero_mul,Nat.zero_add]
    exact r3 j (by rw [← r2]; exact hj)
   ·obtain ⟨q,hq,h3,h4⟩:=hb
    have hqm:q ∈ Q5q (.agg cs):=List.mem_flatMap.2 ⟨_,Q5x hj,hq⟩
    exact ⟨.inr ⟨q,hqm,h3,h4⟩,fun e=>hidn q hqm (hs.dj q id b h3 hsome h4 (e ▸ hSg))⟩
   ·have e1:i=0:=by simpa using hi
    have e2:i'=0:=by simpa using hi'
    subst e1; subst e2
    refine ⟨rfl,?_⟩
    obtain ⟨q,hq,h3,h4⟩:=h1
    obtain ⟨q',hq',h3',h4'⟩:=h2
    have:=hs.dj q q' b h3 h3' h4 h4'
    subst this
    exact Q6x Q5o cs hnd j j' q _ _ (getElem?_av hj) (getElem?_av hj') hq hq')
  (fun b hb=>by
   rcases hb with hb | ⟨j,h1,h2,h3⟩
   ·exact ⟨.inl ⟨id,.inl List.mem_cons_self,hsome,hb⟩,(hs.fb id b hsome hb).2.1⟩
   ·exact ⟨.inl ⟨j,.inl (List.mem_cons_of_mem _ h1),h2,h3⟩,(hs.fb j b h2 h3).2.1⟩)
 refine ⟨_,_,Sh,{ hres with tm:=fun t=>?_ }⟩
 have h3:=hres.tm t
 show Q0i w Sh _ _ (rbx id k cs.length (σ.T t))
 change Q0i w Sh _ _ (σ.T t) at h3
 generalize σ.T t=y at h3
 unfold rbx
 split
 ·rename_i q off
  cases hb:Nat.beq q id with
  | false=>exact h3
  | true =>
   have:=Nat.eq_of_beq_eq_true hb
   subst this
   obtain ⟨g2,e3,e4⟩:=h3.ra_inv
   rw [Q4n _ _ (fun e=>hkid e.symm),hv] at e3
   simp only [Value.pointer.injEq,Option.some.injEq,Addr.mk.injEq,and_true] at e3
   subst e3
   rw [e4]
   have:=Q0i.ea (w:=w) (Sh:=Sh) (β:=upd β k (.slice (some ⟨g,0,none⟩) 1 1)) k cs.length 0 off g 1 1 (Q4m _ _ _)
   simpa using this
 ·exact h3
theorem SRx.boxRowL {T T':List (Nat × AV)} {O O':List (Nat × Q0c)} (id k:Nat) (ko:List Nat) {cs:List AV} {x1:AV} (h:SRx c (mkS T O) a w) (hO:lkO O id=some (.box cs)) (hok:(Q5p (mkS T O) (.agg cs) && Q6z (Q5q (.agg cs)))=true) (hf:Qc5 T O k=true) (hx:pkv true (mkS T O) (.agg cs)=x1)
  (hT:T.map (fun p=>(p.1,rbx id k cs.length p.2))=T') (e:Qci (ko.map fun q=>(q,Q0n (Q4o k (.arr [x1]) (id :: Q5q (.agg cs))) (lkO O) q))=O'):SRx c (mkS T' O') a w:=by
 obtain ⟨h1,h2⟩:=Qc7 hf
 rw [Bool.and_eq_true] at hok
 have:=h.boxRow id k cs hO hok.1 hok.2 h1 h2
 rw [hx] at this
 subst e
 subst hT
 refine this.le (fun t=>?_) (fun q=>Qcj _ ko q)
 right
 show lk .undef (T.map fun p=>(p.1,rbx id k cs.length p.2)) t=rbx id k cs.length (lk .undef T t)
 clear this hok hf h h1 h2 hx
 induction T with
 | nil=>rfl
 | cons p T ih =>
  simp only [List.map_cons,lk]
  cases Nat.beq t p.1 with
  | true=>rfl
  | false=>exact ih
end
end Go.Am
