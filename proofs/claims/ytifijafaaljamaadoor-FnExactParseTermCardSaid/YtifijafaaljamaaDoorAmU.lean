/- The rules as printed proofs use them; the steps of pure programs. -/
import Derived.Test.YtifijafaaljamaaDoorAmS
import Derived.KernelRfl
set_option linter.unusedSimpArgs false
set_option linter.unusedVariables false
namespace Go.Am
open Go.RowKit

def All:List Prop→Prop
 | []=>True
 | p :: ps=>p∧All ps
theorem All.mem:∀ {l:List Prop},All l→∀ p ∈ l,p
 | [],_,p,hp=>by cases hp
 | q :: l,h,p,hp=>by
  rcases List.mem_cons.1 hp with rfl | hp
  ·exact h.1
  ·exact All.mem h.2 p hp

noncomputable section
def cl:Code→Code
 | .seq x _=>x
 | .cond _ x _=>x
 | .block _ x=>x
 | .loop x=>x
 | _=>.skip
def cr:Code→Code
 | .seq _ y=>y
 | .cond _ _ y=>y
 | _=>.skip
def Qdg:Code→Array Oper
 | .region _ ops _=>ops
 | _=>#[]
def Qdh:Code→Bool
 | .region _ _ d=>d
 | _=>false
def Qdi:Code→Nat
 | .region i _ _=>i
 | .block i _=>i
 | .exit i=>i
 | _=>0
def Qdj:Code→Operand
 | .cond x _ _=>x
 | _=>.const undef
def Qdk:Code→Nat
 | .region _ _ _=>0
 | .seq _ _=>1
 | .cond _ _ _=>2
 | .block _ _=>3
 | .loop _=>4
 | .exit _=>5
 | .ret=>6
 | .skip=>7
 | _=>8
end

theorem Qdl {c:Code} (h:Nat.beq (Qdk c) 0=true):c=.region (Qdi c) (Qdg c) (Qdh c):=by cases c <;> simp_all [Qdk,Qdi,Qdg,Qdh]
theorem Qdm {c:Code} (h:Nat.beq (Qdk c) 1=true):c=.seq (cl c) (cr c):=by cases c <;> simp_all [Qdk,cl,cr]
theorem Qdn {c:Code} (h:Nat.beq (Qdk c) 2=true):c=.cond (Qdj c) (cl c) (cr c):=by cases c <;> simp_all [Qdk,cl,cr,Qdj]
theorem Qdo {c:Code} (h:Nat.beq (Qdk c) 3=true):c=.block (Qdi c) (cl c):=by cases c <;> simp_all [Qdk,cl,Qdi]
theorem Qdp {c:Code} (h:Nat.beq (Qdk c) 4=true):c=.loop (cl c):=by cases c <;> simp_all [Qdk,cl]
theorem Qdq {c:Code} (h:Nat.beq (Qdk c) 5=true):c=.exit (Qdi c):=by cases c <;> simp_all [Qdk,Qdi]
theorem Qdr {c:Code} (h:Nat.beq (Qdk c) 6=true):c=.ret:=by cases c <;> simp_all [Qdk]
theorem Qds {c:Code} (h:Nat.beq (Qdk c) 7=true):c=.skip:=by cases c <;> simp_all [Qdk]

def Qdt (P:Program) (c:Ctx) (y:Code) (Q:Exit→Q0d→Prop):Exit→Q0d→Prop
 | .normal,σ=>Wp P c y Q σ
 | e,σ=>Q e σ
def Qdu (id:Nat) (Q:Exit→Q0d→Prop):Exit→Q0d→Prop
 | .exit id',σ=>bif Nat.beq id' id then Q .normal σ else Q (.exit id') σ
 | e,σ=>Q e σ

section
variable {P:Program} {c:Ctx} {σ:Q0d} {Q:Exit→Q0d→Prop} {code:Code}

theorem Wp.seqN (hk:Nat.beq (Qdk code) 1=true) (h:Wp P c (cl code) (Qdt P c (cr code) Q) σ):Wp P c code Q σ:=by
 rw [Qdm hk]
 exact Wp.seq (fun σ'=>Wp P c (cr code) Q σ') (h.mono (fun e σ' h=>by cases e <;> exact h)) (fun σ' h=>h)
theorem Wp.blockN {i:Nat} (hk:(Nat.beq (Qdk code) 3 && Nat.beq (Qdi code) i)=true) (h:Wp P c (cl code) (Qdu i Q) σ):Wp P c code Q σ:=by
 simp only [Bool.and_eq_true] at hk
 have:=Nat.eq_of_beq_eq_true hk.2
 subst this
 rw [Qdo hk.1]
 refine Wp.block (h.mono (fun e σ' h=>?_))
 cases e with
 | exit id' =>
  have h:bif Nat.beq id' (Qdi code) then Q .normal σ' else Q (.exit id') σ':=h
  show if id'=Qdi code then Q .normal σ' else Q (.exit id') σ'
  split
  ·rename_i e; subst e; simpa using h
  ·rename_i e
   cases hb:Nat.beq id' (Qdi code) with
   | true=>exact absurd (Nat.eq_of_beq_eq_true hb) e
   | false=>rw [hb] at h; exact h
 | _=>exact h

def WpL (P:Program) (c:Ctx) (x:Code) (Q:Exit→Q0d→Prop) (σ:Q0d):Prop:=∀ a w,SRx c σ a w→∀ (b:Frame) (k:List Item) (cs:List Frame),
 ∃ e a' w',(∃ σ',Q e σ'∧SRx c σ' a' w')∧Arrives P (lone (b.at a (.code x :: .inLoop x :: k)) cs w) b k cs e a' w'
def Qdv (P:Program) (c:Ctx) (x:Code) (Q:Exit→Q0d→Prop):Exit→Q0d→Prop
 | .normal,σ=>WpL P c x Q σ
 | e,σ=>Q e σ

theorem Wp.loopN (hk:Nat.beq (Qdk code) 4=true) (h:WpL P c (cl code) Q σ):Wp P c code Q σ:=by
 rw [Qdp hk]
 intro a w hs b k cs
 obtain ⟨e,a',w',hq,harr⟩:=h a w hs b k cs
 exact ⟨e,a',w',hq,.of_steps (.one step_loop) harr⟩
theorem WpL.step {x:Code} (h:Wp P c x (Qdv P c x Q) σ):WpL P c x Q σ:=by
 intro a w hs b k cs
 obtain ⟨e,a₁,w₁,⟨σ₁,hq,hs₁⟩,harr⟩:=h a w hs b (.inLoop x :: k) cs
 cases e with
 | normal =>
  obtain ⟨e₂,a₂,w₂,hq₂,harr₂⟩:=hq a₁ w₁ hs₁ b k cs
  exact ⟨e₂,a₂,w₂,hq₂,.of_steps (Steps.trans harr (.one step_inLoop)) harr₂⟩
 | exit id=>exact ⟨_,a₁,w₁,⟨σ₁,hq,hs₁⟩,.pass (x:=.inLoop x) rfl (fun _ _=>.inl (by simp)) harr⟩
 | goto l=>exact ⟨_,a₁,w₁,⟨σ₁,hq,hs₁⟩,.pass (x:=.inLoop x) rfl (fun _ _=>.inl (by simp)) harr⟩
 | ret=>exact ⟨_,a₁,w₁,⟨σ₁,hq,hs₁⟩,.pass (x:=.inLoop x) rfl (fun _ _=>.inl (by simp)) harr⟩
 | panic ch=>exact ⟨_,a₁,w₁,⟨σ₁,hq,hs₁⟩,.pass (x:=.inLoop x) rfl (fun _ _=>.inl (by simp)) harr⟩
 | outgrown=>exact ⟨_,a₁,w₁,⟨σ₁,hq,hs₁⟩,.pass (x:=.inLoop x) rfl (fun _ _=>.inl (by simp)) harr⟩
theorem WpL.mono {x:Code} {Q':Exit→Q0d→Prop} (h:WpL P c x Q σ) (hq:∀ e σ',Q e σ'→Q' e σ'):WpL P c x Q' σ:=fun a w hs b k cs =>
 let ⟨e,a',w',⟨σ',h1,h2⟩,harr⟩:=h a w hs b k cs
 ⟨e,a',w',⟨σ',hq e σ' h1,h2⟩,harr⟩
theorem WpL.view {x:Code} {τ:Q0d} (hv:∀ a w,SRx c σ a w→SRx c τ a w) (h:WpL P c x Q τ):WpL P c x Q σ:=fun a w hs=>h a w (hv a w hs)

theorem Wp.condN {b:Bool} (hk:Nat.beq (Qdk code) 2=true) (hx:opv σ (Qdj code)=.bool b) (h1:b=true→Wp P c (cl code) Q σ) (h2:b=false→Wp P c (cr code) Q σ):Wp P c code Q σ:=by
 rw [Qdn hk]
 exact Wp.cond hx h1 h2
theorem Wp.condT {b:Bool} (hk:Nat.beq (Qdk code) 2=true) (hx:opv σ (Qdj code)=.bool b) (hb:b=true) (h1:Wp P c (cl code) Q σ):Wp P c code Q σ:=by
 subst hb; exact Wp.condN hk hx (fun _=>h1) (fun e=>by cases e)
theorem Wp.condF {b:Bool} (hk:Nat.beq (Qdk code) 2=true) (hx:opv σ (Qdj code)=.bool b) (hb:b=false) (h1:Wp P c (cr code) Q σ):Wp P c code Q σ:=by
 subst hb; exact Wp.condN hk hx (fun e=>by cases e) (fun _=>h1)
theorem Wp.condNil {xs:List AV} (hk:Nat.beq (Qdk code) 2=true) (hx:opv σ (Qdj code)=.nilq xs) (h1:xs=[]→Wp P c (cl code) Q σ) (h2:Wp P c (cr code) Q σ):Wp P c code Q σ:=by
 rw [Qdn hk]
 intro a w hs
 have he:∃ b,a.eval (Qdj code)=.bool b∧(b=true→xs=[]):=by
  obtain ⟨β,fp,Sh,h⟩:=hs
  have:=h.opd (Qdj code)
  rw [hx] at this
  generalize a.eval (Qdj code)=v at this
  cases this with
  | base _ _ h=>cases h with | nilq b xs h=>exact ⟨b,rfl,h⟩
 obtain ⟨b,he,hb⟩:=he
 exact wp_cond_split he (fun e=>h1 (hb e) a w hs) (fun e=>h2 a w hs)
theorem Wp.exitN {i:Nat} (hk:(Nat.beq (Qdk code) 5 && Nat.beq (Qdi code) i)=true) (h:Q (.exit i) σ):Wp P c code Q σ:=by
 simp only [Bool.and_eq_true] at hk
 have:=Nat.eq_of_beq_eq_true hk.2
 subst this
 rw [Qdq hk.1]; exact Wp.exit h
theorem Wp.retN (hk:Nat.beq (Qdk code) 6=true) (h:Q .ret σ):Wp P c code Q σ:=by rw [Qdr hk]; exact Wp.ret h
theorem Wp.skipN (hk:Nat.beq (Qdk code) 7=true) (h:Q .normal σ):Wp P c code Q σ:=by rw [Qds hk]; exact Wp.skip h
theorem Qdw {y:Code} (h:Wp P c y Q σ):Qdt P c y Q .normal σ:=h
theorem Qdx {y:Code} {i:Nat} (h:Q (.exit i) σ):Qdt P c y Q (.exit i) σ:=h
theorem Qdy {y:Code} (h:Q .ret σ):Qdt P c y Q .ret σ:=h
theorem Qdz {i:Nat} (h:Q .normal σ):Qdu i Q (.exit i) σ:=by
 show bif Nat.beq i i then Q .normal σ else Q (.exit i) σ
 rw [Nat.beq_refl]; exact h
theorem Qe0 {i j:Nat} (hij:Nat.beq i j=false) (h:Q (.exit i) σ):Qdu j Q (.exit i) σ:=by
 show bif Nat.beq i j then Q .normal σ else Q (.exit i) σ
 rw [hij]; exact h
theorem Qe1 {i:Nat} (h:Q .normal σ):Qdu i Q .normal σ:=h
theorem Qe2 {i:Nat} (h:Q .ret σ):Qdu i Q .ret σ:=h
theorem Qe3 {x:Code} (h:WpL P c x Q σ):Qdv P c x Q .normal σ:=h
theorem Qe4 {x:Code} {i:Nat} (h:Q (.exit i) σ):Qdv P c x Q (.exit i) σ:=h
theorem Qe5 {x:Code} (h:Q .ret σ):Qdv P c x Q .ret σ:=h
theorem Wp.cut (S:Q0d) (h1:Wp P c code (fun e σ'=>e=.normal∧σ'=S) σ) (h2:Q .normal S):Wp P c code Q σ :=
 h1.mono (fun e σ' ⟨he,hs⟩=>by subst he; subst hs; exact h2)

def Qe6:Option Reg→Prop
 | some r=>All r.obs
 | none=>False
theorem Wp.reg {TI:Nat→Option Q1r} (hTI:Q20 P TI) (hmix:P.follows .mixedOrders=true) {nt:Nat} (hnt:c.nt=nt) (hk:Nat.beq (Qdk code) 0=true) {ah:Option (List (List Nat))} {rs:List (Option Orc)}
  {T T':List (Nat × AV)} {O O':List (Nat × Q0c)} {kt ko:List Nat} (e1:(Qcg TI P nt (Qdg code) ah rs T O kt ko).map (fun r=>(r.T,Qci r.O))=some (T',O')) {A:Prop} (h:A) (e2:A=Qe6 (Qcg TI P nt (Qdg code) ah rs T O kt ko))
  (hdraw:((!Qdh code && ah.isNone) || ah.isSome)=true) (hQ:Q .normal (mkS T' O')):Wp P c code Q (mkS T O):=by
 rw [Qdl hk]
 subst hnt
 subst e2
 cases hr:Qcg TI P c.nt (Qdg code) ah rs T O kt ko with
 | none=>rw [hr] at e1; cases e1
 | some r =>
  rw [hr] at e1 h
  obtain ⟨rT,rO,robs⟩:=r
  simp only [Option.map_some,Option.some.injEq,Prod.mk.injEq] at e1
  obtain ⟨h1,h2⟩:=e1
  subst h1; subst h2
  refine Wp.region hTI hmix hr ?_ (fun p hp=>All.mem h p hp) hQ
  simp only [Bool.or_eq_true,Bool.and_eq_true,Bool.not_eq_true',Option.isNone_iff_eq_none] at hdraw
  exact hdraw

def Qe7 (c:Ctx) (x:Exit) (S:Q0d):Exit→Q0d→Prop:=fun e σ'=>e=x∧∀ a w,SRx c σ' a w→SRx c S a w
theorem Qe7.mk {x:Exit} {S:Q0d}:Qe7 c x S x S:=⟨rfl,fun _ _ h=>h⟩
theorem Qe7.view {x:Exit} {S:Q0d} (h:∀ a w,SRx c σ a w→SRx c S a w):Qe7 c x S x σ:=⟨rfl,h⟩
theorem Wp.into (S:Q0d) {x:Exit} (h1:Wp P c code (Qe7 c x S) σ) (h2:Q x S):Wp P c code Q σ:=by
 intro a w hs
 refine wp_mono (h1 a w hs) ?_
 rintro e a' w' ⟨σ',⟨rfl,hv⟩,hs'⟩
 exact ⟨S,h2,hv a' w' hs'⟩
theorem WpL.into {x:Code} (S:Q0d) {e:Exit} (h1:WpL P c x (Qe7 c e S) σ) (h2:Q e S):WpL P c x Q σ:=by
 intro a w hs b k cs
 obtain ⟨e',a',w',⟨σ',⟨rfl,hv⟩,hs'⟩,harr⟩:=h1 a w hs b k cs
 exact ⟨_,a',w',⟨S,h2,hv a' w' hs'⟩,harr⟩

def rnk (ρ:List (Nat × Nat)) (k:Nat):Nat:=lk k ρ k
def rnO (ρ:Nat→Nat):Q0c→Q0c
 | .arr xs=>.arr xs
 | .box cs=>.box (rns ρ cs)
 | .arx xs i j k=>.arx xs i j (ρ k)
 | .ary xs=>.ary xs
def Qe8:Q0c→Bool
 | .arx _ _ _ _=>true
 | _=>false
def Qe9 (ρ:List (Nat × Nat)) (O':List (Nat × Q0c)):Bool:=Q6z (O'.map fun p=>rnk ρ p.1) && (O'.all fun p=>Nat.blt p.1 1000 || Nat.beq (rnk ρ p.1) p.1) && (O'.all fun p=>!Qe8 p.2)

theorem Qea {α β:Type} {f g:α→β} {l:List α} (h:l.map f=l.map g):∀ x ∈ l,f x=g x:=by
 induction l with
 | nil=>intro x hx; cases hx
 | cons y l ih =>
  simp only [List.map_cons,List.cons.injEq] at h
  intro x hx
  rcases List.mem_cons.1 hx with rfl | hx
  ·exact h.1
  ·exact ih h.2 x hx

def lkO (O:List (Nat × Q0c)):Nat→Option Q0c:=lk none (O.map fun p=>(p.1,some p.2))
theorem Qeb {O:List (Nat × Q0c)} {k:Nat} {o:Q0c} (h:lkO O k=some o):(k,o) ∈ O:=by
 rcases Qc6 none (O.map fun p=>(p.1,some p.2)) k with h' | ⟨p,hp,h1,h2⟩
 ·unfold lkO at h; rw [h'] at h; cases h
 ·unfold lkO at h
  rw [h2] at h
  obtain ⟨q,hq,rfl⟩:=List.mem_map.1 hp
  simp only [Option.some.injEq] at h
  simp only at h1
  subst h; subst h1
  exact hq

theorem SRx.renL {a:Act} {w:World} {T T':List (Nat × AV)} {O O':List (Nat × Q0c)} (ρ:List (Nat × Nat)) (h:SRx c (mkS T O) a w) (hT:(T'.map fun p=>rn (rnk ρ) p.2)=T'.map fun p=>lk .undef T p.1)
  (hO:(O'.map fun p=>some (rnO (rnk ρ) p.2))=O'.map fun p=>lkO O (rnk ρ p.1)) (hB:Qe9 ρ O'=true):SRx c (mkS T' O') a w:=by
 have hT:=Qea hT
 have hO:=Qea hO
 simp only [Qe9,Bool.and_eq_true,List.all_eq_true,Bool.or_eq_true] at hB
 obtain ⟨⟨hnd,hpin⟩,hnx⟩:=hB
 have hnd:=Q70 _ hnd
 have inj:∀ p ∈ O',∀ q ∈ O',rnk ρ p.1=rnk ρ q.1→p=q:=by
  intro p hp q hq e
  obtain ⟨i,hi,rfl⟩:=List.mem_iff_getElem.1 hp
  obtain ⟨j,hj,rfl⟩:=List.mem_iff_getElem.1 hq
  have:=(List.getElem_inj (i:=i) (j:=j) (h₀:=by simpa using hi) (h₁:=by simpa using hj) hnd).1 (by simpa using e)
  subst this
  rfl
 refine h.ren (rnk ρ) (fun t=>?_) (fun k o ho=>?_) (fun k k' h1 h2 e=>?_) (fun k hk h1=>?_)
 ·rcases Qc6 .undef T' t with h | ⟨p,hp,h1,h2⟩
  ·exact .inl h
  ·right
   show rn _ (lk .undef T' t)=lk .undef T t
   rw [h2,hT p hp,h1]
 ·have hm:=Qeb (O:=O') ho
  have:=hO _ hm
  simp only at this
  cases o with
  | arr xs=>exact .inl ⟨xs,rfl,this.symm⟩
  | box cs=>exact .inr (.inr ⟨cs,rfl,this.symm⟩)
  | ary xs=>exact .inr (.inl ⟨xs,rfl,this.symm⟩)
  | arx xs i j k=>have:=hnx _ hm; simp [Qe8] at this
 ·obtain ⟨o,ho⟩:=Option.isSome_iff_exists.1 h1
  obtain ⟨o',ho'⟩:=Option.isSome_iff_exists.1 h2
  exact congrArg Prod.fst (inj _ (Qeb ho) _ (Qeb ho') e)
 ·obtain ⟨o,ho⟩:=Option.isSome_iff_exists.1 h1
  have:=hpin _ (Qeb ho)
  simp only [Nat.blt_eq,Nat.beq_eq] at this
  omega

theorem SRx.nilTL {a:Act} {w:World} {T:List (Nat × AV)} {O:List (Nat × Q0c)} (t k:Nat) (h:SRx c (mkS T O) a w) (ht:lk .undef T t=.nils) (hf:Qc5 T O k=true):SRx c (mkS ((t,.rs k) :: T) ((k,.arr []) :: O)) a w:=by
 obtain ⟨h1,h2⟩:=Qc7 hf
 have:=h.nilT t k ht h1 h2
 exact this
theorem SRx.nilBL {a:Act} {w:World} {T:List (Nat × AV)} {O:List (Nat × Q0c)} (id j k:Nat) (cs:List AV) (h:SRx c (mkS T O) a w) (ho:lkO O id=some (.box cs)) (hj:cs[j]?=some .nils) (hf:Qc5 T O k=true) :
  SRx c (mkS T ((id,.box (cs.set j (.rs k))) :: (k,.arr []) :: O)) a w:=by
 obtain ⟨h1,h2⟩:=Qc7 hf
 have:=h.nilB id j k cs ho hj h1 h2
 exact this

theorem SRx.leT {a:Act} {w:World} {τ:Q0d} (h:SRx c σ a w) (hT:∀ (w:World) Sh β v t,Q0i w Sh β v (σ.T t)→Q0i w Sh β v (τ.T t)) (hO:τ.O=σ.O):SRx c τ a w:=by
 obtain ⟨β,fp,Sh,h⟩:=h
 exact ⟨β,fp,Sh,{ df:=h.df,sz:=h.sz,tm:=fun t=>hT w Sh β _ t (h.tm t),ob:=by rw [hO]; exact h.ob,dj:=by rw [hO]; exact h.dj,fb:=by rw [hO]; exact h.fb,shl:=h.shl,sh0:=h.sh0,fr:=h.fr,pn:=by rw [hO]; exact h.pn }⟩
theorem SRx.nilSL {a:Act} {w:World} {T:List (Nat × AV)} {O:List (Nat × Q0c)} (t:Nat) (h:SRx c (mkS T O) a w) (ht:lk .undef T t=.nils):SRx c (mkS ((t,.sl []) :: T) O) a w:=by
 refine h.leT (fun w Sh β v t' hv=>?_) rfl
 show Q0i w Sh β v (bif Nat.beq t' t then .sl [] else lk .undef T t')
 cases hb:Nat.beq t' t with
 | false=>exact hv
 | true =>
  have:=Nat.eq_of_beq_eq_true hb
  subst this
  have hv:Q0i w Sh β v (lk .undef T t'):=hv
  rw [ht] at hv
  rw [hv.nils_inv]
  exact .base _ _ (.sl0 none 0)

theorem SRx.openL {a:Act} {w:World} {T:List (Nat × AV)} {O O':List (Nat × Q0c)} (id i j k:Nat) (ko:List Nat) {xs ys:List AV} {x0:AV} (h:SRx c (mkS T O) a w) (hO:lkO O id=some (.arr xs)) (hx:xs[i]?=some x0) (hj:(cellsOf x0)[j]?=some (.osl ys)) (hf:Qc5 T O k=true)
  (e:Qci (ko.map fun q=>(q,Q0n [(id,some (.arx xs i j k)),(k,some (.arr ys))] (lkO O) q))=O'):SRx c (mkS T O') a w:=by
 obtain ⟨h1,h2⟩:=Qc7 hf
 have:=h.openX id i j k xs ys x0 hO hx hj h1 h2
 subst e
 exact this.le (fun t=>.inr rfl) (fun q=>Qcj _ ko q)
theorem SRx.closeL {a:Act} {w:World} {T:List (Nat × AV)} {O O':List (Nat × Q0c)} (id i j k:Nat) (ko:List Nat) {xs ys xs':List AV} {x0 x1:AV} (h:SRx c (mkS T O) a w) (hO:lkO O id=some (.arx xs i j k)) (hk:lkO O k=some (.arr ys)) (hne:Nat.beq k id=false) (hx:xs[i]?=some x0)
  (hj:Nat.blt j (cellsOf x0).length=true) (h1:Q9g x0 j (.osl ys)=x1) (h2:xs.set i x1=xs') (e:Qci (ko.map fun q=>(q,Q0n [(id,some (.arr xs')),(k,none)] (lkO O) q))=O'):SRx c (mkS T O') a w:=by
 have:=h.closeX id i j k xs ys x0 hO hk (fun e=>by subst e; rw [Nat.beq_refl] at hne; cases hne) hx (by simpa [Nat.blt_eq] using hj)
 rw [h1,h2] at this
 subst e
 exact this.le (fun t=>.inr rfl) (fun q=>Qcj _ ko q)

def Qec (TI:Nat→Option Q1r) (fn:Func) (args:List AV) (fl:List Bool) (T:List (Nat × AV)) (O:List (Nat × Q0c)):Option AV :=
 match Qcs TI (mkS T O) fn.results.toList with
 | some rs=>match Qcx fl (mkS T O) rs with
  | some (res,ids)=>bif Q6z (ids ++ Qd7 (mkS T O) args) && (args.zipIdx.all fun p=>Qd5 (mkS T O) p.1 (1000 * (p.2 + 1))) then some res else none
  | none=>none
 | none=>none
theorem Fin.mk0 {TI:Nat→Option Q1r} {fn:Func} {args:List AV} {fl:List Bool} {T:List (Nat × AV)} {O:List (Nat × Q0c)} {res:AV} (h:Qec TI fn args fl T O=some res):Fin TI fn args res [] (mkS T O):=by
 unfold Qec at h
 split at h
 ·rename_i rs hrs
  split at h
  ·rename_i r ids hp
   cases hb:Q6z (ids ++ Qd7 (mkS T O) args) && (args.zipIdx.all fun p=>Qd5 (mkS T O) p.1 (1000 * (p.2 + 1))) with
   | false=>rw [hb] at h; cases h
   | true =>
    rw [hb] at h
    simp only [cond_true,Option.some.injEq] at h
    subst h
    simp only [Bool.and_eq_true] at hb
    exact ⟨⟨rs,fl,ids,hrs,hp,hb.1⟩,.inr rfl,hb.2⟩
  ·cases h
 ·cases h

def Qed (TI:Nat→Option Q1r) (fn:Func) (args:List AV) (res:AV):Exit→Q0d→Prop:=fun e σ'=>(e=.ret∨e=.normal)∧Fin TI fn args res [] σ'
theorem Qed.ret {TI:Nat→Option Q1r} {fn:Func} {args:List AV} {fl:List Bool} {T:List (Nat × AV)} {O:List (Nat × Q0c)} {res:AV} (h:Qec TI fn args fl T O=some res):Qed TI fn args res .ret (mkS T O):=⟨.inl rfl,.mk0 h⟩
theorem Qed.normal {TI:Nat→Option Q1r} {fn:Func} {args:List AV} {fl:List Bool} {T:List (Nat × AV)} {O:List (Nat × Q0c)} {res:AV} (h:Qec TI fn args fl T O=some res):Qed TI fn args res .normal (mkS T O):=⟨.inr rfl,.mk0 h⟩

def Qee:AV→Bool
 | .osl _ | .optr _=>true
 | .agg cs=>!Nat.beq (nls cs) 0
 | _=>false
theorem Qef {σ:Q0d} {args:List AV} (h:args.all (fun x=>!Qee x)=true):Qd7 σ args=[]∧(args.zipIdx.all fun p=>Qd5 σ p.1 (1000 * (p.2 + 1)))=true:=by
 rw [List.all_eq_true] at h
 have hm:∀ p ∈ args.zipIdx,Qee p.1=false:=fun p hp=>by
  obtain ⟨x,i⟩:=p
  have:=List.mem_zipIdx hp
  simp only [Nat.zero_add,Nat.sub_zero] at this
  obtain ⟨_,hi,hx⟩:=this
  have:=h x (by rw [hx]; exact List.getElem_mem _)
  simpa using this
 constructor
 ·unfold Qd7
  rw [List.flatMap_eq_nil_iff]
  intro p hp
  have:=hm p hp
  cases hx:p.1 <;> simp_all [Qee,Qd4]
 ·rw [List.all_eq_true]
  intro p hp
  have:=hm p hp
  cases hx:p.1 <;> simp_all [Qee,Qd5]
theorem Fin.widen {TI:Nat→Option Q1r} {fn:Func} {args:List AV} {res:AV} (h:Fin TI fn [] res [] σ) (ha:args.all (fun x=>!Qee x)=true):Fin TI fn args res [] σ:=by
 obtain ⟨⟨rs,fl,ids,h1,h2,h4⟩,h5,h6⟩:=h
 obtain ⟨o1,o2⟩:=Qef (σ:=σ) ha
 refine ⟨⟨rs,fl,ids,h1,h2,?_⟩,.inr rfl,o2⟩
 rw [o1]; exact h4

def Qeg (TI:Nat→Option Q1r) (fn:Func) (args:List AV) (res:AV):Exit→Q0d→Prop:=fun e σ'=>e=.ret∧Fin TI fn args res [] σ'
theorem Qeg.ret {TI:Nat→Option Q1r} {fn:Func} {args:List AV} {fl:List Bool} {T:List (Nat × AV)} {O:List (Nat × Q0c)} {res:AV} (h:Qec TI fn args fl T O=some res):Qeg TI fn args res .ret (mkS T O):=⟨rfl,.mk0 h⟩
theorem Q7a.body0 {TI:Nat→Option Q1r} (hTI:Q20 P TI) {f:FuncId} {fn:Func} {code:Code} {args:List AV} {res:AV} (hf:P.funcs[f]?=some fn) (hb:fn.body=some code) (hok:Qcq args=true) (ha:args.all (fun x=>!Qee x)=true) {nt:Nat} (hnt:Nat.beq fn.ntmps nt=true) (hle:Nat.ble args.length nt=true)
  {T:List (Nat × AV)} {O:List (Nat × Q0c)} (hT:Qco args=T) (hO:Qcp args=O) (h:∀ c:Ctx,c.nt=nt→Wp P c code (Qed TI fn [] res) (mkS T O)):Q7a P f args res []:=by
 have hnt:=Nat.eq_of_beq_eq_true hnt
 subst hnt; subst hT; subst hO
 exact Q7a.of_body hTI hf hb hok (Nat.le_of_ble_eq_true hle) (fun c hc=>(h c hc).mono (fun e σ' ⟨h1,h2⟩=>⟨h1,h2.widen ha⟩))
def Qeh (TI:Nat→Option Q1r) (fn:Func) (args:List AV) (fl:List Bool) (T:List (Nat × AV)) (O:List (Nat × Q0c)):Option (AV × List AV):=(Qec TI fn args fl T O).map fun r=>(r,Qd6 (mkS T O) args)
theorem Fin.mkO {TI:Nat→Option Q1r} {fn:Func} {args outs:List AV} {fl:List Bool} {T:List (Nat × AV)} {O:List (Nat × Q0c)} {res:AV} (h:Qeh TI fn args fl T O=some (res,outs)):Fin TI fn args res outs (mkS T O):=by
 unfold Qeh at h
 cases h':Qec TI fn args fl T O with
 | none=>rw [h'] at h; cases h
 | some r =>
  rw [h'] at h
  simp only [Option.map_some,Option.some.injEq,Prod.mk.injEq] at h
  obtain ⟨rfl,rfl⟩:=h
  have:=Fin.mk0 h'
  exact ⟨this.ret,.inl rfl,this.ok⟩
def Qei (TI:Nat→Option Q1r) (fn:Func) (args:List AV) (r:AV × List AV):Exit→Q0d→Prop:=fun e σ'=>(e=.ret∨e=.normal)∧Fin TI fn args r.1 r.2 σ'
theorem Qei.ret {TI:Nat→Option Q1r} {fn:Func} {args:List AV} {fl:List Bool} {T:List (Nat × AV)} {O:List (Nat × Q0c)} {r:AV × List AV} (h:Qeh TI fn args fl T O=some r):Qei TI fn args r .ret (mkS T O):=⟨.inl rfl,.mkO h⟩
theorem Qei.normal {TI:Nat→Option Q1r} {fn:Func} {args:List AV} {fl:List Bool} {T:List (Nat × AV)} {O:List (Nat × Q0c)} {r:AV × List AV} (h:Qeh TI fn args fl T O=some r):Qei TI fn args r .normal (mkS T O):=⟨.inr rfl,.mkO h⟩
def Qej (TI:Nat→Option Q1r) (fn:Func) (args:List AV) (r:AV × List AV):Exit→Q0d→Prop:=fun e σ'=>e=.ret∧Fin TI fn args r.1 r.2 σ'
theorem Qej.ret {TI:Nat→Option Q1r} {fn:Func} {args:List AV} {fl:List Bool} {T:List (Nat × AV)} {O:List (Nat × Q0c)} {r:AV × List AV} (h:Qeh TI fn args fl T O=some r):Qej TI fn args r .ret (mkS T O):=⟨rfl,.mkO h⟩
theorem Q7a.bodyO {TI:Nat→Option Q1r} (hTI:Q20 P TI) {f:FuncId} {fn:Func} {code:Code} {args outs:List AV} {res:AV} (hf:P.funcs[f]?=some fn) (hb:fn.body=some code) (hok:Qcq args=true) {nt:Nat} (hnt:Nat.beq fn.ntmps nt=true) (hle:Nat.ble args.length nt=true)
  {T:List (Nat × AV)} {O:List (Nat × Q0c)} (hT:Qco args=T) (hO:Qcp args=O) (h:∀ c:Ctx,c.nt=nt→Wp P c code (Qei TI fn args (res,outs)) (mkS T O)):Q7a P f args res outs:=by
 have hnt:=Nat.eq_of_beq_eq_true hnt
 subst hnt; subst hT; subst hO
 exact Q7a.of_body hTI hf hb hok (Nat.le_of_ble_eq_true hle) h
theorem Q7a.body {TI:Nat→Option Q1r} (hTI:Q20 P TI) {f:FuncId} {fn:Func} {code:Code} {args:List AV} {res:AV} (hf:P.funcs[f]?=some fn) (hb:fn.body=some code) (hok:Qcq args=true) {nt:Nat} (hnt:fn.ntmps=nt) (hle:Nat.ble args.length nt=true)
  {T:List (Nat × AV)} {O:List (Nat × Q0c)} (hT:Qco args=T) (hO:Qcp args=O) (h:∀ c:Ctx,c.nt=nt→Wp P c code (Qed TI fn args res) (mkS T O)):Q7a P f args res []:=by
 subst hnt; subst hT; subst hO
 exact Q7a.of_body hTI hf hb hok (Nat.le_of_ble_eq_true hle) h
end

theorem Qek {P:Program} {f:FuncId} {fn:Func} (h:P.funcs[f]?=some fn) (hb:fn.body.isSome=true) (hn:(fn.name == "runtime.NumGoroutine")=false):Q80 P f:=⟨fn,h,hb,fun e=>by rw [e] at hn; simp at hn⟩

theorem Qel {α β:Type} {x:Option α} {f:α→Option β} {r:β} (h:(x >>= f)=some r):∃ a,x=some a∧f a=some r:=by
 cases x with
 | none=>cases h
 | some a=>exact ⟨a,rfl,h⟩
theorem Qem {α:Type} {b:Bool} {x y:Option α} {r:α} (h:(if b=true then x else y)=some r):(b=true∧x=some r)∨(b=false∧y=some r):=by
 cases b
 ·exact .inr ⟨rfl,h⟩
 ·exact .inl ⟨rfl,h⟩

def I (x:Int):AV:=.int .i64 x
def wr (x:Int):Int:=IntKind.i64.wrap x
def idx {α:Type} (l:List α) (i:Int):Option α:=if 0 ≤ i then l[i.toNat]? else none
def chk (p:Prop) [Decidable p]:Option Unit:=if p then some () else none
theorem Qen {p:Prop} [Decidable p] {u:Unit} (h:chk p=some u):p:=by
 unfold chk at h
 split at h
 ·assumption
 ·cases h
theorem Qeo {α:Type} {l:List α} {i:Int} {v:α} (h:idx l i=some v):0 ≤ i∧l[i.toNat]?=some v:=by
 unfold idx at h
 split at h
 ·exact ⟨by assumption,h⟩
 ·cases h
theorem Qep {α:Type} {enc:α→AV} {l:List α} {i:Int} {v:α} {x:AV} (h:idx l i=some v) (hx:enc v=x):0 ≤ i∧(l.map enc)[i.toNat]?=some x:=by
 obtain ⟨h1,h2⟩:=Qeo h
 exact ⟨h1,by rw [List.getElem?_map,h2,← hx]; rfl⟩
theorem Qeq {α:Type} {enc:α→AV} {l:List α} {i:Int} {v:α} (h:idx l i=some v):0 ≤ i∧i.toNat < (l.map enc).length:=by
 obtain ⟨h1,h2⟩:=Qeo h
 exact ⟨h1,by rw [List.length_map]; exact (List.getElem?_eq_some_iff.1 h2).1⟩
theorem wrT {d:Nat} {x y:AV} (h:x=y):(⟨[(d,x)],[],[]⟩:Wr)=⟨[(d,y)],[],[]⟩:=by rw [h]
theorem Qer {α:Type} {d:Nat} (enc:α→AV) (l:List α):(⟨[(d,.int .i64 (((l.map enc).length:Nat):Int))],[],[]⟩:Wr)=⟨[(d,.int .i64 ((l.length:Nat):Int))],[],[]⟩:=by rw [List.length_map]
theorem Q7a.args {P:Program} {f:FuncId} {A1 A2:List AV} {r:AV} {o:List AV} (e:A1=A2) (h:Q7a P f A2 r o):Q7a P f A1 r o:=e ▸ h
theorem Q7a.undefs {P:Program} {f:FuncId} {A:List AV} {r:AV} (n:Nat) (h:Q7a P f A r []):Q7a P f A r (List.replicate n .undef):=by
 have e:∀ i,av (List.replicate n AV.undef) i=av [] i:=fun i=>by
  simp only [av,List.getD_eq_getElem?_getD,List.getElem?_replicate]
  split <;> simp
 unfold Q7a
 simp only [e]
 exact h
theorem nT {b:Bool} (h:b=false):(!b)=true:=by rw [h]; rfl
theorem nF {b:Bool} (h:b=true):(!b)=false:=by rw [h]; rfl
theorem neT {b:Bool} (h:b=false):b ≠ true:=by rw [h]; decide
theorem neF {b:Bool} (h:b=true):b ≠ false:=by rw [h]; decide
theorem Qes {α:Type} {enc:α→AV} {e:List α} {sz:Nat} (hsz:∀ v,(cellsOf (enc v)).length=sz) {l h m:Option Int} (hc:0 ≤ l.getD 0∧l.getD 0 ≤ h.getD (e.length:Int)∧h.getD (e.length:Int) ≤ m.getD (e.length:Int)∧m.getD (e.length:Int) ≤ (e.length:Int)) :
  (∀ x ∈ List.map enc e,(cellsOf x).length=sz)∧0 ≤ l.getD 0∧l.getD 0 ≤ h.getD ((List.map enc e).length:Int)∧h.getD ((List.map enc e).length:Int) ≤ m.getD ((List.map enc e).length:Int)∧m.getD ((List.map enc e).length:Int) ≤ ((List.map enc e).length:Int):=by
 rw [List.length_map]
 exact ⟨fun x hx=>by obtain ⟨v,_,rfl⟩:=List.mem_map.1 hx; exact hsz v,hc⟩
def cut {α:Type} (e:List α) (l h m:Option Int):Option (List α) :=
 if 0 ≤ l.getD 0∧l.getD 0 ≤ h.getD (e.length:Int)∧h.getD (e.length:Int) ≤ m.getD (e.length:Int)∧m.getD (e.length:Int) ≤ (e.length:Int) then some ((e.take (h.getD (e.length:Int)).toNat).drop (l.getD 0).toNat) else none
theorem Qet {α:Type} {enc:α→AV} {e v:List α} {sz:Nat} (hsz:∀ v,(cellsOf (enc v)).length=sz) {l h m:Option Int} (hc:cut e l h m=some v) :
  (∀ x ∈ List.map enc e,(cellsOf x).length=sz)∧0 ≤ l.getD 0∧l.getD 0 ≤ h.getD ((List.map enc e).length:Int)∧h.getD ((List.map enc e).length:Int) ≤ m.getD ((List.map enc e).length:Int)∧m.getD ((List.map enc e).length:Int) ≤ ((List.map enc e).length:Int):=by
 unfold cut at hc
 split at hc
 ·exact Qes hsz (by assumption)
 ·cases hc
theorem Qeu {α:Type} {d:Nat} (enc:α→AV) {e v:List α} {l h m:Option Int} (hc:cut e l h m=some v) :
  (⟨[(d,.sl (((List.map enc e).take (h.getD ((List.map enc e).length:Int)).toNat).drop (l.getD 0).toNat))],[],[]⟩:Wr)=⟨[(d,.sl (List.map enc v))],[],[]⟩:=by
 unfold cut at hc
 split at hc
 ·simp only [Option.some.injEq] at hc
  subst hc
  rw [List.length_map,List.map_drop,List.map_take]
 ·cases hc
def Qev (s:ByteArray) (l h:Option Int):Option ByteArray :=
 if 0 ≤ l.getD 0∧l.getD 0 ≤ h.getD (s.size:Int)∧h.getD (s.size:Int) ≤ (s.size:Int) then some (s.extract (l.getD 0).toNat (h.getD (s.size:Int)).toNat) else none
theorem Qew {s v:ByteArray} {l h:Option Int} (hc:Qev s l h=some v):(0 ≤ l.getD 0∧l.getD 0 ≤ h.getD (s.size:Int)∧h.getD (s.size:Int) ≤ (s.size:Int)):=by
 unfold Qev at hc
 split at hc
 ·assumption
 ·cases hc
theorem Qex {d:Nat} {s v:ByteArray} {l h:Option Int} (hc:Qev s l h=some v):(⟨[(d,.str (s.extract (l.getD 0).toNat (h.getD (s.size:Int)).toNat))],[],[]⟩:Wr)=⟨[(d,.str v)],[],[]⟩:=by
 unfold Qev at hc
 split at hc
 ·simp only [Option.some.injEq] at hc; subst hc; rfl
 ·cases hc
def Qey (n bytes:Nat):Option Unit:=chk (n * bytes ≤ 140737488355328)
theorem Qez {α:Type} {enc1 enc2:α→AV} {e1 e2:List α} {sz bytes:Nat} {u:Unit} (h1:∀ v,Q5v sz (enc1 v)=true) (h2:∀ v,Q5v sz (enc2 v)=true) (hc:Qey (e1.length + e2.length) bytes=some u) :
  (∀ y ∈ List.map enc1 e1 ++ List.map enc2 e2,Q5v sz y=true)∧((List.map enc1 e1).length + (List.map enc2 e2).length) * bytes ≤ 140737488355328:=by
 rw [List.length_map,List.length_map]
 refine ⟨fun y hy=>?_,Qen hc⟩
 rcases List.mem_append.1 hy with hy | hy <;> obtain ⟨v,_,rfl⟩:=List.mem_map.1 hy
 ·exact h1 v
 ·exact h2 v
def U8 (x:Int):AV:=.int .u8 x
theorem Qf0 (x:Int):I x=.int .i64 x:=rfl
theorem Qf1 (x:Int):U8 x=.int .u8 x:=rfl
theorem Qf2 (x:Bool):AV.bool x=.bool x:=rfl
theorem Qf3 (x:ByteArray):AV.str x=.str x:=rfl
theorem Qf4 (x:Int):(cellsOf (I x)).length=1:=rfl
theorem Qf5 (x:Int):(cellsOf (U8 x)).length=1:=rfl
theorem Qf6 (x:Bool):(cellsOf (AV.bool x)).length=1:=rfl
theorem Qf7 (x:ByteArray):(cellsOf (AV.str x)).length=1:=rfl
theorem Qf8 (x:Int):Q5v 1 (I x)=true:=rfl
theorem Qf9 (x:Int):Q5v 1 (U8 x)=true:=rfl
theorem Qfa (x:Bool):Q5v 1 (AV.bool x)=true:=rfl
theorem Qfb (x:ByteArray):Q5v 1 (AV.str x)=true:=rfl
theorem Qfc {α:Type} {e1 e2:α→AV} (h:∀ v,share (e1 v)=e2 v) (l:List α):Q05 (List.map e1 l)=List.map e2 l:=by rw [Q06,List.map_map]; exact List.map_congr_left (fun v _=>h v)
theorem Qfd (l:List Int):Q05 (List.map I l)=List.map I l:=Qfc (fun _=>rfl) l
theorem Qfe (l:List Int):Q05 (List.map U8 l)=List.map U8 l:=Qfc (fun _=>rfl) l
theorem Qff (l:List Bool):Q05 (List.map AV.bool l)=List.map AV.bool l:=Qfc (fun _=>rfl) l
theorem Qfg (l:List ByteArray):Q05 (List.map AV.str l)=List.map AV.str l:=Qfc (fun _=>rfl) l
theorem Qfh (x:Int):noSh (I x)=true:=rfl
theorem Qfi (x:Int):noSh (U8 x)=true:=rfl
theorem Qfj (x:Bool):noSh (AV.bool x)=true:=rfl
theorem Qfk (x:ByteArray):noSh (AV.str x)=true:=rfl
theorem Qfl {α:Type} {enc:α→AV} (h:∀ v,noSh (enc v)=true) (l:List α):noSh (.osl (List.map enc l))=true:=by
 show Q7b _=true
 induction l with
 | nil=>rfl
 | cons x l ih=>simp only [List.map_cons,Q7b,h x,ih,Bool.and_self]
theorem Qfm {α:Type} {enc:α→AV} (h:∀ v,noSh (enc v)=true) (l:List α):Q7b (List.map enc l)=true:=Qfl h l
theorem Qfn {x:AV} {l:List AV} (h1:noSh x=true) (h2:Q7b l=true):Q7b (x :: l)=true:=by simp only [Q7b,h1,h2,Bool.and_self]
theorem Qfo {α:Type} {enc:α→AV} {i:Nat} {l:List α} {v:α} {x:AV} (h:enc v=x):(List.map enc l).set i x=List.map enc (l.set i v):=by rw [← h,List.map_set]
theorem Qfp {α:Type} {enc:α→AV} {sz:Nat} (hsz:∀ v,(cellsOf (enc v)).length=sz) {l:List α} {i:Int} {v:α} (h:idx l i=some v):i.toNat < (List.map enc l).length∧(cellsOf (av (List.map enc l) i.toNat)).length=sz:=by
 obtain ⟨h1,h2⟩:=Qeq (enc:=enc) h
 refine ⟨h2,?_⟩
 rw [Qda h2,List.getElem_map]
 exact hsz _
theorem Qfq {α:Type} {enc:α→AV} {n:Nat} {x:AV} {v:α} (h:enc v=x):List.replicate n x=List.map enc (List.replicate n v):=by rw [← h,List.map_replicate]
theorem Qfr {α:Type} {enc:α→AV}:([]:List AV)=List.map enc []:=rfl
theorem Qfs {α:Type} {enc:α→AV} {v:α} {x:AV} {l:List AV} {vs:List α} (h:enc v=x) (h2:l=List.map enc vs):x :: l=List.map enc (v :: vs):=by rw [← h,h2]; rfl
def Qft (s:ByteArray) (i:Int):Option Int:=if 0 ≤ i∧i < (s.size:Int) then some (((s.data.getD i.toNat 0).toNat:Int)) else none
theorem Qfu {s:ByteArray} {i v:Int} (h:Qft s i=some v):0 ≤ i∧i < (s.size:Int):=by
 unfold Qft at h
 split at h
 ·assumption
 ·cases h
theorem Qfv {d:Nat} {s:ByteArray} {i v:Int} (h:Qft s i=some v):(⟨[(d,.int .u8 ((s.data.getD i.toNat 0).toNat:Int))],[],[]⟩:Wr)=⟨[(d,.int .u8 v)],[],[]⟩:=by
 unfold Qft at h
 split at h
 ·simp only [Option.some.injEq] at h; rw [h]
 ·cases h
theorem Q20.of_list {P:Program} (l:List (Nat × Q1r)) (h:∀ p ∈ l,Q1z P p.1 p.2):Q20 P (lk none (l.map fun p=>(p.1,some p.2))):=by
 intro t i hi
 rcases Qc6 none (l.map fun p=>(p.1,some p.2)) t with h' | ⟨p,hp,h1,h2⟩
 ·rw [h'] at hi; cases hi
 ·rw [h2] at hi
  obtain ⟨q,hq,rfl⟩:=List.mem_map.1 hp
  simp only [Option.some.injEq] at hi
  subst hi
  simp only at h1
  subst h1
  exact h _ hq
end Go.Am
