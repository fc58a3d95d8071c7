/- The rules as printed proofs use them; the steps of pure programs. -/
import Derived.Test.YtckgdfakjjdodaaGreatAmS
import Derived.KernelRfl
set_option linter.unusedSimpArgs false
set_option linter.unusedVariables false
namespace Go.Am
open Go.RowKit

def All:List Prop→Prop
 | []=>True
 | p :: ps=>p∧All ps
theorem All.mem:∀ {l:List Prop},All l→∀ p ∈ l,p
 | [],_,p,hp=>by cases hp
 | q :: l,h,p,hp=>by
  rcases List.mem_cons.1 hp with rfl | hp
  ·exact h.1
  ·exact All.mem h.2 p hp

noncomputable section
def cl:Code→Code
 | .seq x _=>x
 | .cond _ x _=>x
 | .block _ x=>x
 | .loop x=>x
 | _=>.skip
def cr:Code→Code
 | .seq _ y=>y
 | .cond _ _ y=>y
 | _=>.skip
def Qd0:Code→Array Oper
 | .region _ ops _=>ops
 | _=>#[]
def Qd1:Code→Bool
 | .region _ _ d=>d
 | _=>false
def Qd2:Code→Nat
 | .region i _ _=>i
 | .block i _=>i
 | .exit i=>i
 | _=>0
def Qd3:Code→Operand
 | .cond x _ _=>x
 | _=>.const undef
def Qd4:Code→Nat
 | .region _ _ _=>0
 | .seq _ _=>1
 | .cond _ _ _=>2
 | .block _ _=>3
 | .loop _=>4
 | .exit _=>5
 | .ret=>6
 | .skip=>7
 | _=>8
end

theorem Qd5 {c:Code} (h:Nat.beq (Qd4 c) 0=true):c=.region (Qd2 c) (Qd0 c) (Qd1 c):=by cases c <;> simp_all [Qd4,Qd2,Qd0,Qd1]
theorem Qd6 {c:Code} (h:Nat.beq (Qd4 c) 1=true):c=.seq (cl c) (cr c):=by cases c <;> simp_all [Qd4,cl,cr]
theorem Qd7 {c:Code} (h:Nat.beq (Qd4 c) 2=true):c=.cond (Qd3 c) (cl c) (cr c):=by cases c <;> simp_all [Qd4,cl,cr,Qd3]
theorem Qd8 {c:Code} (h:Nat.beq (Qd4 c) 3=true):c=.block (Qd2 c) (cl c):=by cases c <;> simp_all [Qd4,cl,Qd2]
theorem Qd9 {c:Code} (h:Nat.beq (Qd4 c) 4=true):c=.loop (cl c):=by cases c <;> simp_all [Qd4,cl]
theorem Qda {c:Code} (h:Nat.beq (Qd4 c) 5=true):c=.exit (Qd2 c):=by cases c <;> simp_all [Qd4,Qd2]
theorem Qdb {c:Code} (h:Nat.beq (Qd4 c) 6=true):c=.ret:=by cases c <;> simp_all [Qd4]
theorem Qdc {c:Code} (h:Nat.beq (Qd4 c) 7=true):c=.skip:=by cases c <;> simp_all [Qd4]

def Qdd (P:Program) (c:Ctx) (y:Code) (Q:Exit→Q0a→Prop):Exit→Q0a→Prop
 | .normal,σ=>Wp P c y Q σ
 | e,σ=>Q e σ
def Qde (id:Nat) (Q:Exit→Q0a→Prop):Exit→Q0a→Prop
 | .exit id',σ=>bif Nat.beq id' id then Q .normal σ else Q (.exit id') σ
 | e,σ=>Q e σ

section
variable {P:Program} {c:Ctx} {σ:Q0a} {Q:Exit→Q0a→Prop} {code:Code}

theorem Wp.seqN (hk:Nat.beq (Qd4 code) 1=true) (h:Wp P c (cl code) (Qdd P c (cr code) Q) σ):Wp P c code Q σ:=by
 rw [Qd6 hk]
 exact Wp.seq (fun σ'=>Wp P c (cr code) Q σ') (h.mono (fun e σ' h=>by cases e <;> exact h)) (fun σ' h=>h)
theorem Wp.blockN {i:Nat} (hk:(Nat.beq (Qd4 code) 3 && Nat.beq (Qd2 code) i)=true) (h:Wp P c (cl code) (Qde i Q) σ):Wp P c code Q σ:=by
 simp only [Bool.and_eq_true] at hk
 have:=Nat.eq_of_beq_eq_true hk.2
 subst this
 rw [Qd8 hk.1]
 refine Wp.block (h.mono (fun e σ' h=>?_))
 cases e with
 | exit id' =>
  have h:bif Nat.beq id' (Qd2 code) then Q .normal σ' else Q (.exit id') σ':=h
  show if id'=Qd2 code then Q .normal σ' else Q (.exit id') σ'
  split
  ·rename_i e; subst e; simpa using h
  ·rename_i e
   cases hb:Nat.beq id' (Qd2 code) with
   | true=>exact absurd (Nat.eq_of_beq_eq_true hb) e
   | false=>rw [hb] at h; exact h
 | _=>exact h

def WpL (P:Program) (c:Ctx) (x:Code) (Q:Exit→Q0a→Prop) (σ:Q0a):Prop:=∀ a w,SRx c σ a w→∀ (b:Frame) (k:List Item) (cs:List Frame),
 ∃ e a' w',(∃ σ',Q e σ'∧SRx c σ' a' w')∧Arrives P (lone (b.at a (.code x :: .inLoop x :: k)) cs w) b k cs e a' w'
def Qdf (P:Program) (c:Ctx) (x:Code) (Q:Exit→Q0a→Prop):Exit→Q0a→Prop
 | .normal,σ=>WpL P c x Q σ
 | e,σ=>Q e σ

theorem Wp.loopN (hk:Nat.beq (Qd4 code) 4=true) (h:WpL P c (cl code) Q σ):Wp P c code Q σ:=by
 rw [Qd9 hk]
 intro a w hs b k cs
 obtain ⟨e,a',w',hq,harr⟩:=h a w hs b k cs
 exact ⟨e,a',w',hq,.of_steps (.one step_loop) harr⟩
theorem WpL.step {x:Code} (h:Wp P c x (Qdf P c x Q) σ):WpL P c x Q σ:=by
 intro a w hs b k cs
 obtain ⟨e,a₁,w₁,⟨σ₁,hq,hs₁⟩,harr⟩:=h a w hs b (.inLoop x :: k) cs
 cases e with
 | normal =>
  obtain ⟨e₂,a₂,w₂,hq₂,harr₂⟩:=hq a₁ w₁ hs₁ b k cs
  exact ⟨e₂,a₂,w₂,hq₂,.of_steps (Steps.trans harr (.one step_inLoop)) harr₂⟩
 | exit id=>exact ⟨_,a₁,w₁,⟨σ₁,hq,hs₁⟩,.pass (x:=.inLoop x) rfl (fun _ _=>.inl (by simp)) harr⟩
 | goto l=>exact ⟨_,a₁,w₁,⟨σ₁,hq,hs₁⟩,.pass (x:=.inLoop x) rfl (fun _ _=>.inl (by simp)) harr⟩
 | ret=>exact ⟨_,a₁,w₁,⟨σ₁,hq,hs₁⟩,.pass (x:=.inLoop x) rfl (fun _ _=>.inl (by simp)) harr⟩
 | panic ch=>exact ⟨_,a₁,w₁,⟨σ₁,hq,hs₁⟩,.pass (x:=.inLoop x) rfl (fun _ _=>.inl (by simp)) harr⟩
 | outgrown=>exact ⟨_,a₁,w₁,⟨σ₁,hq,hs₁⟩,.pass (x:=.inLoop x) rfl (fun _ _=>.inl (by simp)) harr⟩
theorem WpL.mono {x:Code} {Q':Exit→Q0a→Prop} (h:WpL P c x Q σ) (hq:∀ e σ',Q e σ'→Q' e σ'):WpL P c x Q' σ:=fun a w hs b k cs =>
 let ⟨e,a',w',⟨σ',h1,h2⟩,harr⟩:=h a w hs b k cs
 ⟨e,a',w',⟨σ',hq e σ' h1,h2⟩,harr⟩
theorem WpL.view {x:Code} {τ:Q0a} (hv:∀ a w,SRx c σ a w→SRx c τ a w) (h:WpL P c x Q τ):WpL P c x Q σ:=fun a w hs=>h a w (hv a w hs)

theorem Wp.condN {b:Bool} (hk:Nat.beq (Qd4 code) 2=true) (hx:opv σ (Qd3 code)=.bool b) (h1:b=true→Wp P c (cl code) Q σ) (h2:b=false→Wp P c (cr code) Q σ):Wp P c code Q σ:=by
 rw [Qd7 hk]
 exact Wp.cond hx h1 h2
theorem Wp.condT {b:Bool} (hk:Nat.beq (Qd4 code) 2=true) (hx:opv σ (Qd3 code)=.bool b) (hb:b=true) (h1:Wp P c (cl code) Q σ):Wp P c code Q σ:=by
 subst hb; exact Wp.condN hk hx (fun _=>h1) (fun e=>by cases e)
theorem Wp.condF {b:Bool} (hk:Nat.beq (Qd4 code) 2=true) (hx:opv σ (Qd3 code)=.bool b) (hb:b=false) (h1:Wp P c (cr code) Q σ):Wp P c code Q σ:=by
 subst hb; exact Wp.condN hk hx (fun e=>by cases e) (fun _=>h1)
theorem Wp.condNil {xs:List AV} (hk:Nat.beq (Qd4 code) 2=true) (hx:opv σ (Qd3 code)=.nilq xs) (h1:xs=[]→Wp P c (cl code) Q σ) (h2:Wp P c (cr code) Q σ):Wp P c code Q σ:=by
 rw [Qd7 hk]
 intro a w hs
 have he:∃ b,a.eval (Qd3 code)=.bool b∧(b=true→xs=[]):=by
  obtain ⟨β,fp,Sh,h⟩:=hs
  have:=h.opd (Qd3 code)
  rw [hx] at this
  generalize a.eval (Qd3 code)=v at this
  cases this with
  | base _ _ h=>cases h with | nilq b xs h=>exact ⟨b,rfl,h⟩
 obtain ⟨b,he,hb⟩:=he
 exact wp_cond_split he (fun e=>h1 (hb e) a w hs) (fun e=>h2 a w hs)
theorem Wp.exitN {i:Nat} (hk:(Nat.beq (Qd4 code) 5 && Nat.beq (Qd2 code) i)=true) (h:Q (.exit i) σ):Wp P c code Q σ:=by
 simp only [Bool.and_eq_true] at hk
 have:=Nat.eq_of_beq_eq_true hk.2
 subst this
 rw [Qda hk.1]; exact Wp.exit h
theorem Wp.retN (hk:Nat.beq (Qd4 code) 6=true) (h:Q .ret σ):Wp P c code Q σ:=by rw [Qdb hk]; exact Wp.ret h
theorem Wp.skipN (hk:Nat.beq (Qd4 code) 7=true) (h:Q .normal σ):Wp P c code Q σ:=by rw [Qdc hk]; exact Wp.skip h
theorem Qdg {y:Code} (h:Wp P c y Q σ):Qdd P c y Q .normal σ:=h
theorem Qdh {y:Code} {i:Nat} (h:Q (.exit i) σ):Qdd P c y Q (.exit i) σ:=h
theorem Qdi {y:Code} (h:Q .ret σ):Qdd P c y Q .ret σ:=h
theorem Qdj {i:Nat} (h:Q .normal σ):Qde i Q (.exit i) σ:=by
 show bif Nat.beq i i then Q .normal σ else Q (.exit i) σ
 rw [Nat.beq_refl]; exact h
theorem Qdk {i j:Nat} (hij:Nat.beq i j=false) (h:Q (.exit i) σ):Qde j Q (.exit i) σ:=by
 show bif Nat.beq i j then Q .normal σ else Q (.exit i) σ
 rw [hij]; exact h
theorem Qdl {i:Nat} (h:Q .normal σ):Qde i Q .normal σ:=h
theorem Qdm {i:Nat} (h:Q .ret σ):Qde i Q .ret σ:=h
theorem Qdn {x:Code} (h:WpL P c x Q σ):Qdf P c x Q .normal σ:=h
theorem Qdo {x:Code} {i:Nat} (h:Q (.exit i) σ):Qdf P c x Q (.exit i) σ:=h
theorem Qdp {x:Code} (h:Q .ret σ):Qdf P c x Q .ret σ:=h
theorem Wp.cut (S:Q0a) (h1:Wp P c code (fun e σ'=>e=.normal∧σ'=S) σ) (h2:Q .normal S):Wp P c code Q σ :=
 h1.mono (fun e σ' ⟨he,hs⟩=>by subst he; subst hs; exact h2)

def Qdq:Option Reg→Prop
 | some r=>All r.obs
 | none=>False
theorem Wp.reg {TI:Nat→Option Q1o} (hTI:Q1x P TI) (hmix:P.follows .mixedOrders=true) {nt:Nat} (hnt:c.nt=nt) (hk:Nat.beq (Qd4 code) 0=true) {ah:Option (List (List Nat))} {rs:List (Option Orc)}
  {T T':List (Nat × AV)} {O O':List (Nat × Q09)} {kt ko:List Nat} (e1:(Qc0 TI P nt (Qd0 code) ah rs T O kt ko).map (fun r=>(r.T,Qc2 r.O))=some (T',O')) {A:Prop} (h:A) (e2:A=Qdq (Qc0 TI P nt (Qd0 code) ah rs T O kt ko))
  (hdraw:((!Qd1 code && ah.isNone) || ah.isSome)=true) (hQ:Q .normal (mkS T' O')):Wp P c code Q (mkS T O):=by
 rw [Qd5 hk]
 subst hnt
 subst e2
 cases hr:Qc0 TI P c.nt (Qd0 code) ah rs T O kt ko with
 | none=>rw [hr] at e1; cases e1
 | some r =>
  rw [hr] at e1 h
  obtain ⟨rT,rO,robs⟩:=r
  simp only [Option.map_some,Option.some.injEq,Prod.mk.injEq] at e1
  obtain ⟨h1,h2⟩:=e1
  subst h1; subst h2
  refine Wp.region hTI hmix hr ?_ (fun p hp=>All.mem h p hp) hQ
  simp only [Bool.or_eq_true,Bool.and_eq_true,Bool.not_eq_true',Option.isNone_iff_eq_none] at hdraw
  exact hdraw

def Qdr (c:Ctx) (x:Exit) (S:Q0a):Exit→Q0a→Prop:=fun e σ'=>e=x∧∀ a w,SRx c σ' a w→SRx c S a w
theorem Qdr.mk {x:Exit} {S:Q0a}:Qdr c x S x S:=⟨rfl,fun _ _ h=>h⟩
theorem Qdr.view {x:Exit} {S:Q0a} (h:∀ a w,SRx c σ a w→SRx c S a w):Qdr c x S x σ:=⟨rfl,h⟩
theorem Wp.into (S:Q0a) {x:Exit} (h1:Wp P c code (Qdr c x S) σ) (h2:Q x S):Wp P c code Q σ:=by
 intro a w hs
 refine wp_mono (h1 a w hs) ?_
 rintro e a' w' ⟨σ',⟨rfl,hv⟩,hs'⟩
 exact ⟨S,h2,hv a' w' hs'⟩
theorem WpL.into {x:Code} (S:Q0a) {e:Exit} (h1:WpL P c x (Qdr c e S) σ) (h2:Q e S):WpL P c x Q σ:=by
 intro a w hs b k cs
 obtain ⟨e',a',w',⟨σ',⟨rfl,hv⟩,hs'⟩,harr⟩:=h1 a w hs b k cs
 exact ⟨_,a',w',⟨S,h2,hv a' w' hs'⟩,harr⟩

def rnk (ρ:List (Nat × Nat)) (k:Nat):Nat:=lk k ρ k
def rnO (ρ:Nat→Nat):Q09→Q09
 | .arr xs=>.arr xs
 | .box cs=>.box (rns ρ cs)
 | .arx xs i j k=>.arx xs i j (ρ k)
 | .ary xs=>.ary xs
def Qds:Q09→Bool
 | .arx _ _ _ _=>true
 | _=>false
def Qdt (ρ:List (Nat × Nat)) (O':List (Nat × Q09)):Bool:=Q6w (O'.map fun p=>rnk ρ p.1) && (O'.all fun p=>Nat.blt p.1 1000 || Nat.beq (rnk ρ p.1) p.1) && (O'.all fun p=>!Qds p.2)

theorem Qdu {α β:Type} {f g:α→β} {l:List α} (h:l.map f=l.map g):∀ x ∈ l,f x=g x:=by
 induction l with
 | nil=>intro x hx; cases hx
 | cons y l ih =>
  simp only [List.map_cons,List.cons.injEq] at h
  intro x hx
  rcases List.mem_cons.1 hx with rfl | hx
  ·exact h.1
  ·exact ih h.2 x hx

def lkO (O:List (Nat × Q09)):Nat→Option Q09:=lk none (O.map fun p=>(p.1,some p.2))
theorem Qdv {O:List (Nat × Q09)} {k:Nat} {o:Q09} (h:lkO O k=some o):(k,o) ∈ O:=by
 rcases Qbq none (O.map fun p=>(p.1,some p.2)) k with h' | ⟨p,hp,h1,h2⟩
 ·unfold lkO at h; rw [h'] at h; cases h
 ·unfold lkO at h
  rw [h2] at h
  obtain ⟨q,hq,rfl⟩:=List.mem_map.1 hp
  simp only [Option.some.injEq] at h
  simp only at h1
  subst h; subst h1
  exact hq

theorem SRx.renL {a:Act} {w:World} {T T':List (Nat × AV)} {O O':List (Nat × Q09)} (ρ:List (Nat × Nat)) (h:SRx c (mkS T O) a w) (hT:(T'.map fun p=>rn (rnk ρ) p.2)=T'.map fun p=>lk .undef T p.1)
  (hO:(O'.map fun p=>some (rnO (rnk ρ) p.2))=O'.map fun p=>lkO O (rnk ρ p.1)) (hB:Qdt ρ O'=true):SRx c (mkS T' O') a w:=by
 have hT:=Qdu hT
 have hO:=Qdu hO
 simp only [Qdt,Bool.and_eq_true,List.all_eq_true,Bool.or_eq_true] at hB
 obtain ⟨⟨hnd,hpin⟩,hnx⟩:=hB
 have hnd:=Q6x _ hnd
 have inj:∀ p ∈ O',∀ q ∈ O',rnk ρ p.1=rnk ρ q.1→p=q:=by
  intro p hp q hq e
  obtain ⟨i,hi,rfl⟩:=List.mem_iff_getElem.1 hp
  obtain ⟨j,hj,rfl⟩:=List.mem_iff_getElem.1 hq
  have:=(List.getElem_inj (i:=i) (j:=j) (h₀:=by simpa using hi) (h₁:=by simpa using hj) hnd).1 (by simpa using e)
  subst this
  rfl
 refine h.ren (rnk ρ) (fun t=>?_) (fun k o ho=>?_) (fun k k' h1 h2 e=>?_) (fun k hk h1=>?_)
 ·rcases Qbq .undef T' t with h | ⟨p,hp,h1,h2⟩
  ·exact .inl h
  ·right
   show rn _ (lk .undef T' t)=lk .undef T t
   rw [h2,hT p hp,h1]
 ·have hm:=Qdv (O:=O') ho
  have:=hO _ hm
  simp only at this
  cases o with
  | arr xs=>exact .inl ⟨xs,rfl,this.symm⟩
  | box cs=>exact .inr (.inr ⟨cs,rfl,this.symm⟩)
  | ary xs=>exact .inr (.inl ⟨xs,rfl,this.symm⟩)
  | arx xs i j k=>have:=hnx _ hm; simp [Qds] at this
 ·obtain ⟨o,ho⟩:=Option.isSome_iff_exists.1 h1
  obtain ⟨o',ho'⟩:=Option.isSome_iff_exists.1 h2
  exact congrArg Prod.fst (inj _ (Qdv ho) _ (Qdv ho') e)
 ·obtain ⟨o,ho⟩:=Option.isSome_iff_exists.1 h1
  have:=hpin _ (Qdv ho)
  simp only [Nat.blt_eq,Nat.beq_eq] at this
  omega

theorem SRx.nilTL {a:Act} {w:World} {T:List (Nat × AV)} {O:List (Nat × Q09)} (t k:Nat) (h:SRx c (mkS T O) a w) (ht:lk .undef T t=.nils) (hf:Qbp T O k=true):SRx c (mkS ((t,.rs k) :: T) ((k,.arr []) :: O)) a w:=by
 obtain ⟨h1,h2⟩:=Qbr hf
 have:=h.nilT t k ht h1 h2
 exact this
theorem SRx.nilBL {a:Act} {w:World} {T:List (Nat × AV)} {O:List (Nat × Q09)} (id j k:Nat) (cs:List AV) (h:SRx c (mkS T O) a w) (ho:lkO O id=some (.box cs)) (hj:cs[j]?=some .nils) (hf:Qbp T O k=true) :
  SRx c (mkS T ((id,.box (cs.set j (.rs k))) :: (k,.arr []) :: O)) a w:=by
 obtain ⟨h1,h2⟩:=Qbr hf
 have:=h.nilB id j k cs ho hj h1 h2
 exact this

theorem SRx.leT {a:Act} {w:World} {τ:Q0a} (h:SRx c σ a w) (hT:∀ (w:World) Sh β v t,Q0f w Sh β v (σ.T t)→Q0f w Sh β v (τ.T t)) (hO:τ.O=σ.O):SRx c τ a w:=by
 obtain ⟨β,fp,Sh,h⟩:=h
 exact ⟨β,fp,Sh,{ df:=h.df,sz:=h.sz,tm:=fun t=>hT w Sh β _ t (h.tm t),ob:=by rw [hO]; exact h.ob,dj:=by rw [hO]; exact h.dj,fb:=by rw [hO]; exact h.fb,shl:=h.shl,sh0:=h.sh0,fr:=h.fr,pn:=by rw [hO]; exact h.pn }⟩
theorem SRx.nilSL {a:Act} {w:World} {T:List (Nat × AV)} {O:List (Nat × Q09)} (t:Nat) (h:SRx c (mkS T O) a w) (ht:lk .undef T t=.nils):SRx c (mkS ((t,.sl []) :: T) O) a w:=by
 refine h.leT (fun w Sh β v t' hv=>?_) rfl
 show Q0f w Sh β v (bif Nat.beq t' t then .sl [] else lk .undef T t')
 cases hb:Nat.beq t' t with
 | false=>exact hv
 | true =>
  have:=Nat.eq_of_beq_eq_true hb
  subst this
  have hv:Q0f w Sh β v (lk .undef T t'):=hv
  rw [ht] at hv
  rw [hv.nils_inv]
  exact .base _ _ (.sl0 none 0)

theorem SRx.openL {a:Act} {w:World} {T:List (Nat × AV)} {O O':List (Nat × Q09)} (id i j k:Nat) (ko:List Nat) {xs ys:List AV} {x0:AV} (h:SRx c (mkS T O) a w) (hO:lkO O id=some (.arr xs)) (hx:xs[i]?=some x0) (hj:(cellsOf x0)[j]?=some (.osl ys)) (hf:Qbp T O k=true)
  (e:Qc2 (ko.map fun q=>(q,Q0k [(id,some (.arx xs i j k)),(k,some (.arr ys))] (lkO O) q))=O'):SRx c (mkS T O') a w:=by
 obtain ⟨h1,h2⟩:=Qbr hf
 have:=h.openX id i j k xs ys x0 hO hx hj h1 h2
 subst e
 exact this.le (fun t=>.inr rfl) (fun q=>Qc3 _ ko q)
theorem SRx.closeL {a:Act} {w:World} {T:List (Nat × AV)} {O O':List (Nat × Q09)} (id i j k:Nat) (ko:List Nat) {xs ys xs':List AV} {x0 x1:AV} (h:SRx c (mkS T O) a w) (hO:lkO O id=some (.arx xs i j k)) (hk:lkO O k=some (.arr ys)) (hne:Nat.beq k id=false) (hx:xs[i]?=some x0)
  (hj:Nat.blt j (cellsOf x0).length=true) (h1:Q90 x0 j (.osl ys)=x1) (h2:xs.set i x1=xs') (e:Qc2 (ko.map fun q=>(q,Q0k [(id,some (.arr xs')),(k,none)] (lkO O) q))=O'):SRx c (mkS T O') a w:=by
 have:=h.closeX id i j k xs ys x0 hO hk (fun e=>by subst e; rw [Nat.beq_refl] at hne; cases hne) hx (by simpa [Nat.blt_eq] using hj)
 rw [h1,h2] at this
 subst e
 exact this.le (fun t=>.inr rfl) (fun q=>Qc3 _ ko q)

def Qdw (TI:Nat→Option Q1o) (fn:Func) (args:List AV) (fl:List Bool) (T:List (Nat × AV)) (O:List (Nat × Q09)):Option AV :=
 match Qcc TI (mkS T O) fn.results.toList with
 | some rs=>match Qch fl (mkS T O) rs with
  | some (res,ids)=>bif Q6w (ids ++ Qcr (mkS T O) args) && (args.zipIdx.all fun p=>Qcp (mkS T O) p.1 (1000 * (p.2 + 1))) then some res else none
  | none=>none
 | none=>none
theorem Fin.mk0 {TI:Nat→Option Q1o} {fn:Func} {args:List AV} {fl:List Bool} {T:List (Nat × AV)} {O:List (Nat × Q09)} {res:AV} (h:Qdw TI fn args fl T O=some res):Fin TI fn args res [] (mkS T O):=by
 unfold Qdw at h
 split at h
 ·rename_i rs hrs
  split at h
  ·rename_i r ids hp
   cases hb:Q6w (ids ++ Qcr (mkS T O) args) && (args.zipIdx.all fun p=>Qcp (mkS T O) p.1 (1000 * (p.2 + 1))) with
   | false=>rw [hb] at h; cases h
   | true =>
    rw [hb] at h
    simp only [cond_true,Option.some.injEq] at h
    subst h
    simp only [Bool.and_eq_true] at hb
    exact ⟨⟨rs,fl,ids,hrs,hp,hb.1⟩,.inr rfl,hb.2⟩
  ·cases h
 ·cases h

def Qdx (TI:Nat→Option Q1o) (fn:Func) (args:List AV) (res:AV):Exit→Q0a→Prop:=fun e σ'=>(e=.ret∨e=.normal)∧Fin TI fn args res [] σ'
theorem Qdx.ret {TI:Nat→Option Q1o} {fn:Func} {args:List AV} {fl:List Bool} {T:List (Nat × AV)} {O:List (Nat × Q09)} {res:AV} (h:Qdw TI fn args fl T O=some res):Qdx TI fn args res .ret (mkS T O):=⟨.inl rfl,.mk0 h⟩
theorem Qdx.normal {TI:Nat→Option Q1o} {fn:Func} {args:List AV} {fl:List Bool} {T:List (Nat × AV)} {O:List (Nat × Q09)} {res:AV} (h:Qdw TI fn args fl T O=some res):Qdx TI fn args res .normal (mkS T O):=⟨.inr rfl,.mk0 h⟩

def Qdy:AV→Bool
 | .osl _ | .optr _=>true
 | .agg cs=>!Nat.beq (nls cs) 0
 | _=>false
theorem Qdz {σ:Q0a} {args:List AV} (h:args.all (fun x=>!Qdy x)=true):Qcr σ args=[]∧(args.zipIdx.all fun p=>Qcp σ p.1 (1000 * (p.2 + 1)))=true:=by
 rw [List.all_eq_true] at h
 have hm:∀ p ∈ args.zipIdx,Qdy p.1=false:=fun p hp=>by
  obtain ⟨x,i⟩:=p
  have:=List.mem_zipIdx hp
  simp only [Nat.zero_add,Nat.sub_zero] at this
  obtain ⟨_,hi,hx⟩:=this
  have:=h x (by rw [hx]; exact List.getElem_mem _)
  simpa using this
 constructor
 ·unfold Qcr
  rw [List.flatMap_eq_nil_iff]
  intro p hp
  have:=hm p hp
  cases hx:p.1 <;> simp_all [Qdy,Qco]
 ·rw [List.all_eq_true]
  intro p hp
  have:=hm p hp
  cases hx:p.1 <;> simp_all [Qdy,Qcp]
theorem Fin.widen {TI:Nat→Option Q1o} {fn:Func} {args:List AV} {res:AV} (h:Fin TI fn [] res [] σ) (ha:args.all (fun x=>!Qdy x)=true):Fin TI fn args res [] σ:=by
 obtain ⟨⟨rs,fl,ids,h1,h2,h4⟩,h5,h6⟩:=h
 obtain ⟨o1,o2⟩:=Qdz (σ:=σ) ha
 refine ⟨⟨rs,fl,ids,h1,h2,?_⟩,.inr rfl,o2⟩
 rw [o1]; exact h4

def Qe0 (TI:Nat→Option Q1o) (fn:Func) (args:List AV) (res:AV):Exit→Q0a→Prop:=fun e σ'=>e=.ret∧Fin TI fn args res [] σ'
theorem Qe0.ret {TI:Nat→Option Q1o} {fn:Func} {args:List AV} {fl:List Bool} {T:List (Nat × AV)} {O:List (Nat × Q09)} {res:AV} (h:Qdw TI fn args fl T O=some res):Qe0 TI fn args res .ret (mkS T O):=⟨rfl,.mk0 h⟩
theorem Q77.body0 {TI:Nat→Option Q1o} (hTI:Q1x P TI) {f:FuncId} {fn:Func} {code:Code} {args:List AV} {res:AV} (hf:P.funcs[f]?=some fn) (hb:fn.body=some code) (hok:Qca args=true) (ha:args.all (fun x=>!Qdy x)=true) {nt:Nat} (hnt:Nat.beq fn.ntmps nt=true) (hle:Nat.ble args.length nt=true)
  {T:List (Nat × AV)} {O:List (Nat × Q09)} (hT:Qc8 args=T) (hO:Qc9 args=O) (h:∀ c:Ctx,c.nt=nt→Wp P c code (Qdx TI fn [] res) (mkS T O)):Q77 P f args res []:=by
 have hnt:=Nat.eq_of_beq_eq_true hnt
 subst hnt; subst hT; subst hO
 exact Q77.of_body hTI hf hb hok (Nat.le_of_ble_eq_true hle) (fun c hc=>(h c hc).mono (fun e σ' ⟨h1,h2⟩=>⟨h1,h2.widen ha⟩))
def Qe1 (TI:Nat→Option Q1o) (fn:Func) (args:List AV) (fl:List Bool) (T:List (Nat × AV)) (O:List (Nat × Q09)):Option (AV × List AV):=(Qdw TI fn args fl T O).map fun r=>(r,Qcq (mkS T O) args)
theorem Fin.mkO {TI:Nat→Option Q1o} {fn:Func} {args outs:List AV} {fl:List Bool} {T:List (Nat × AV)} {O:List (Nat × Q09)} {res:AV} (h:Qe1 TI fn args fl T O=some (res,outs)):Fin TI fn args res outs (mkS T O):=by
 unfold Qe1 at h
 cases h':Qdw TI fn args fl T O with
 | none=>rw [h'] at h; cases h
 | some r =>
  rw [h'] at h
  simp only [Option.map_some,Option.some.injEq,Prod.mk.injEq] at h
  obtain ⟨rfl,rfl⟩:=h
  have:=Fin.mk0 h'
  exact ⟨this.ret,.inl rfl,this.ok⟩
def Qe2 (TI:Nat→Option Q1o) (fn:Func) (args:List AV) (r:AV × List AV):Exit→Q0a→Prop:=fun e σ'=>(e=.ret∨e=.normal)∧Fin TI fn args r.1 r.2 σ'
theorem Qe2.ret {TI:Nat→Option Q1o} {fn:Func} {args:List AV} {fl:List Bool} {T:List (Nat × AV)} {O:List (Nat × Q09)} {r:AV × List AV} (h:Qe1 TI fn args fl T O=some r):Qe2 TI fn args r .ret (mkS T O):=⟨.inl rfl,.mkO h⟩
theorem Qe2.normal {TI:Nat→Option Q1o} {fn:Func} {args:List AV} {fl:List Bool} {T:List (Nat × AV)} {O:List (Nat × Q09)} {r:AV × List AV} (h:Qe1 TI fn args fl T O=some r):Qe2 TI fn args r .normal (mkS T O):=⟨.inr rfl,.mkO h⟩
def Qe3 (TI:Nat→Option Q1o) (fn:Func) (args:List AV) (r:AV × List AV):Exit→Q0a→Prop:=fun e σ'=>e=.ret∧Fin TI fn args r.1 r.2 σ'
theorem Qe3.ret {TI:Nat→Option Q1o} {fn:Func} {args:List AV} {fl:List Bool} {T:List (Nat × AV)} {O:List (Nat × Q09)} {r:AV × List AV} (h:Qe1 TI fn args fl T O=some r):Qe3 TI fn args r .ret (mkS T O):=⟨rfl,.mkO h⟩
theorem Q77.bodyO {TI:Nat→Option Q1o} (hTI:Q1x P TI) {f:FuncId} {fn:Func} {code:Code} {args outs:List AV} {res:AV} (hf:P.funcs[f]?=some fn) (hb:fn.body=some code) (hok:Qca args=true) {nt:Nat} (hnt:Nat.beq fn.ntmps nt=true) (hle:Nat.ble args.length nt=true)
  {T:List (Nat × AV)} {O:List (Nat × Q09)} (hT:Qc8 args=T) (hO:Qc9 args=O) (h:∀ c:Ctx,c.nt=nt→Wp P c code (Qe2 TI fn args (res,outs)) (mkS T O)):Q77 P f args res outs:=by
 have hnt:=Nat.eq_of_beq_eq_true hnt
 subst hnt; subst hT; subst hO
 exact Q77.of_body hTI hf hb hok (Nat.le_of_ble_eq_true hle) h
theorem Q77.body {TI:Nat→Option Q1o} (hTI:Q1x P TI) {f:FuncId} {fn:Func} {code:Code} {args:List AV} {res:AV} (hf:P.funcs[f]?=some fn) (hb:fn.body=some code) (hok:Qca args=true) {nt:Nat} (hnt:fn.ntmps=nt) (hle:Nat.ble args.length nt=true)
  {T:List (Nat × AV)} {O:List (Nat × Q09)} (hT:Qc8 args=T) (hO:Qc9 args=O) (h:∀ c:Ctx,c.nt=nt→Wp P c code (Qdx TI fn args res) (mkS T O)):Q77 P f args res []:=by
 subst hnt; subst hT; subst hO
 exact Q77.of_body hTI hf hb hok (Nat.le_of_ble_eq_true hle) h
end

theorem Qe4 {P:Program} {f:FuncId} {fn:Func} (h:P.funcs[f]?=some fn) (hb:fn.body.isSome=true) (hn:(fn.name == "runtime.NumGoroutine")=false):Q7x P f:=⟨fn,h,hb,fun e=>by rw [e] at hn; simp at hn⟩

theorem Qe5 {α β:Type} {x:Option α} {f:α→Option β} {r:β} (h:(x >>= f)=some r):∃ a,x=some a∧f a=some r:=by
 cases x with
 | none=>cases h
 | some a=>exact ⟨a,rfl,h⟩
theorem Qe6 {α:Type} {b:Bool} {x y:Option α} {r:α} (h:(if b=true then x else y)=some r):(b=true∧x=some r)∨(b=false∧y=some r):=by
 cases b
 ·exact .inr ⟨rfl,h⟩
 ·exact .inl ⟨rfl,h⟩

def I (x:Int):AV:=.int .i64 x
def wr (x:Int):Int:=IntKind.i64.wrap x
def idx {α:Type} (l:List α) (i:Int):Option α:=if 0 ≤ i then l[i.toNat]? else none
def chk (p:Prop) [Decidable p]:Option Unit:=if p then some () else none
theorem Qe7 {p:Prop} [Decidable p] {u:Unit} (h:chk p=some u):p:=by
 unfold chk at h
 split at h
 ·assumption
 ·cases h
theorem Qe8 {α:Type} {l:List α} {i:Int} {v:α} (h:idx l i=some v):0 ≤ i∧l[i.toNat]?=some v:=by
 unfold idx at h
 split at h
 ·exact ⟨by assumption,h⟩
 ·cases h
theorem Qe9 {α:Type} {enc:α→AV} {l:List α} {i:Int} {v:α} {x:AV} (h:idx l i=some v) (hx:enc v=x):0 ≤ i∧(l.map enc)[i.toNat]?=some x:=by
 obtain ⟨h1,h2⟩:=Qe8 h
 exact ⟨h1,by rw [List.getElem?_map,h2,← hx]; rfl⟩
theorem Qea {α:Type} {enc:α→AV} {l:List α} {i:Int} {v:α} (h:idx l i=some v):0 ≤ i∧i.toNat < (l.map enc).length:=by
 obtain ⟨h1,h2⟩:=Qe8 h
 exact ⟨h1,by rw [List.length_map]; exact (List.getElem?_eq_some_iff.1 h2).1⟩
theorem wrT {d:Nat} {x y:AV} (h:x=y):(⟨[(d,x)],[],[]⟩:Wr)=⟨[(d,y)],[],[]⟩:=by rw [h]
theorem Qeb {α:Type} {d:Nat} (enc:α→AV) (l:List α):(⟨[(d,.int .i64 (((l.map enc).length:Nat):Int))],[],[]⟩:Wr)=⟨[(d,.int .i64 ((l.length:Nat):Int))],[],[]⟩:=by rw [List.length_map]
theorem Q77.args {P:Program} {f:FuncId} {A1 A2:List AV} {r:AV} {o:List AV} (e:A1=A2) (h:Q77 P f A2 r o):Q77 P f A1 r o:=e ▸ h
theorem Q77.undefs {P:Program} {f:FuncId} {A:List AV} {r:AV} (n:Nat) (h:Q77 P f A r []):Q77 P f A r (List.replicate n .undef):=by
 have e:∀ i,av (List.replicate n AV.undef) i=av [] i:=fun i=>by
  simp only [av,List.getD_eq_getElem?_getD,List.getElem?_replicate]
  split <;> simp
 unfold Q77
 simp only [e]
 exact h
theorem nT {b:Bool} (h:b=false):(!b)=true:=by rw [h]; rfl
theorem nF {b:Bool} (h:b=true):(!b)=false:=by rw [h]; rfl
theorem neT {b:Bool} (h:b=false):b ≠ true:=by rw [h]; decide
theorem neF {b:Bool} (h:b=true):b ≠ false:=by rw [h]; decide
theorem Qec {α:Type} {enc:α→AV} {e:List α} {sz:Nat} (hsz:∀ v,(cellsOf (enc v)).length=sz) {l h m:Option Int} (hc:0 ≤ l.getD 0∧l.getD 0 ≤ h.getD (e.length:Int)∧h.getD (e.length:Int) ≤ m.getD (e.length:Int)∧m.getD (e.length:Int) ≤ (e.length:Int)) :
  (∀ x ∈ List.map enc e,(cellsOf x).length=sz)∧0 ≤ l.getD 0∧l.getD 0 ≤ h.getD ((List.map enc e).length:Int)∧h.getD ((List.map enc e).length:Int) ≤ m.getD ((List.map enc e).length:Int)∧m.getD ((List.map enc e).length:Int) ≤ ((List.map enc e).length:Int):=by
 rw [List.length_map]
 exact ⟨fun x hx=>by obtain ⟨v,_,rfl⟩:=List.mem_map.1 hx; exact hsz v,hc⟩
def cut {α:Type} (e:List α) (l h m:Option Int):Option (List α) :=
 if 0 ≤ l.getD 0∧l.getD 0 ≤ h.getD (e.length:Int)∧h.getD (e.length:Int) ≤ m.getD (e.length:Int)∧m.getD (e.length:Int) ≤ (e.length:Int) then some ((e.take (h.getD (e.length:Int)).toNat).drop (l.getD 0).toNat) else none
theorem Qed {α:Type} {enc:α→AV} {e v:List α} {sz:Nat} (hsz:∀ v,(cellsOf (enc v)).length=sz) {l h m:Option Int} (hc:cut e l h m=some v) :
  (∀ x ∈ List.map enc e,(cellsOf x).length=sz)∧0 ≤ l.getD 0∧l.getD 0 ≤ h.getD ((List.map enc e).length:Int)∧h.getD ((List.map enc e).length:Int) ≤ m.getD ((List.map enc e).length:Int)∧m.getD ((List.map enc e).length:Int) ≤ ((List.map enc e).length:Int):=by
 unfold cut at hc
 split at hc
 ·exact Qec hsz (by assumption)
 ·cases hc
theorem Qee {α:Type} {d:Nat} (enc:α→AV) {e v:List α} {l h m:Option Int} (hc:cut e l h m=some v) :
  (⟨[(d,.sl (((List.map enc e).take (h.getD ((List.map enc e).length:Int)).toNat).drop (l.getD 0).toNat))],[],[]⟩:Wr)=⟨[(d,.sl (List.map enc v))],[],[]⟩:=by
 unfold cut at hc
 split at hc
 ·simp only [Option.some.injEq] at hc
  subst hc
  rw [List.length_map,List.map_drop,List.map_take]
 ·cases hc
def Qef (s:ByteArray) (l h:Option Int):Option ByteArray :=
 if 0 ≤ l.getD 0∧l.getD 0 ≤ h.getD (s.size:Int)∧h.getD (s.size:Int) ≤ (s.size:Int) then some (s.extract (l.getD 0).toNat (h.getD (s.size:Int)).toNat) else none
theorem Qeg {s v:ByteArray} {l h:Option Int} (hc:Qef s l h=some v):(0 ≤ l.getD 0∧l.getD 0 ≤ h.getD (s.size:Int)∧h.getD (s.size:Int) ≤ (s.size:Int)):=by
 unfold Qef at hc
 split at hc
 ·assumption
 ·cases hc
theorem Qeh {d:Nat} {s v:ByteArray} {l h:Option Int} (hc:Qef s l h=some v):(⟨[(d,.str (s.extract (l.getD 0).toNat (h.getD (s.size:Int)).toNat))],[],[]⟩:Wr)=⟨[(d,.str v)],[],[]⟩:=by
 unfold Qef at hc
 split at hc
 ·simp only [Option.some.injEq] at hc; subst hc; rfl
 ·cases hc
def Qei (n bytes:Nat):Option Unit:=chk (n * bytes ≤ 140737488355328)
theorem Qej {α:Type} {enc1 enc2:α→AV} {e1 e2:List α} {sz bytes:Nat} {u:Unit} (h1:∀ v,Q5s sz (enc1 v)=true) (h2:∀ v,Q5s sz (enc2 v)=true) (hc:Qei (e1.length + e2.length) bytes=some u) :
  (∀ y ∈ List.map enc1 e1 ++ List.map enc2 e2,Q5s sz y=true)∧((List.map enc1 e1).length + (List.map enc2 e2).length) * bytes ≤ 140737488355328:=by
 rw [List.length_map,List.length_map]
 refine ⟨fun y hy=>?_,Qe7 hc⟩
 rcases List.mem_append.1 hy with hy | hy <;> obtain ⟨v,_,rfl⟩:=List.mem_map.1 hy
 ·exact h1 v
 ·exact h2 v
def U8 (x:Int):AV:=.int .u8 x
theorem Qek (x:Int):I x=.int .i64 x:=rfl
theorem Qel (x:Int):U8 x=.int .u8 x:=rfl
theorem Qem (x:Bool):AV.bool x=.bool x:=rfl
theorem Qen (x:ByteArray):AV.str x=.str x:=rfl
theorem Qeo (x:Int):(cellsOf (I x)).length=1:=rfl
theorem Qep (x:Int):(cellsOf (U8 x)).length=1:=rfl
theorem Qeq (x:Bool):(cellsOf (AV.bool x)).length=1:=rfl
theorem Qer (x:ByteArray):(cellsOf (AV.str x)).length=1:=rfl
theorem Qes (x:Int):Q5s 1 (I x)=true:=rfl
theorem Qet (x:Int):Q5s 1 (U8 x)=true:=rfl
theorem Qeu (x:Bool):Q5s 1 (AV.bool x)=true:=rfl
theorem Qev (x:ByteArray):Q5s 1 (AV.str x)=true:=rfl
theorem Qew {α:Type} {e1 e2:α→AV} (h:∀ v,share (e1 v)=e2 v) (l:List α):Q02 (List.map e1 l)=List.map e2 l:=by rw [Q03,List.map_map]; exact List.map_congr_left (fun v _=>h v)
theorem Qex (l:List Int):Q02 (List.map I l)=List.map I l:=Qew (fun _=>rfl) l
theorem Qey (l:List Int):Q02 (List.map U8 l)=List.map U8 l:=Qew (fun _=>rfl) l
theorem Qez (l:List Bool):Q02 (List.map AV.bool l)=List.map AV.bool l:=Qew (fun _=>rfl) l
theorem Qf0 (l:List ByteArray):Q02 (List.map AV.str l)=List.map AV.str l:=Qew (fun _=>rfl) l
theorem Qf1 (x:Int):noSh (I x)=true:=rfl
theorem Qf2 (x:Int):noSh (U8 x)=true:=rfl
theorem Qf3 (x:Bool):noSh (AV.bool x)=true:=rfl
theorem Qf4 (x:ByteArray):noSh (AV.str x)=true:=rfl
theorem Qf5 {α:Type} {enc:α→AV} (h:∀ v,noSh (enc v)=true) (l:List α):noSh (.osl (List.map enc l))=true:=by
 show Q78 _=true
 induction l with
 | nil=>rfl
 | cons x l ih=>simp only [List.map_cons,Q78,h x,ih,Bool.and_self]
theorem Qf6 {α:Type} {enc:α→AV} (h:∀ v,noSh (enc v)=true) (l:List α):Q78 (List.map enc l)=true:=Qf5 h l
theorem Qf7 {x:AV} {l:List AV} (h1:noSh x=true) (h2:Q78 l=true):Q78 (x :: l)=true:=by simp only [Q78,h1,h2,Bool.and_self]
theorem Qf8 {α:Type} {enc:α→AV} {i:Nat} {l:List α} {v:α} {x:AV} (h:enc v=x):(List.map enc l).set i x=List.map enc (l.set i v):=by rw [← h,List.map_set]
theorem Qf9 {α:Type} {enc:α→AV} {sz:Nat} (hsz:∀ v,(cellsOf (enc v)).length=sz) {l:List α} {i:Int} {v:α} (h:idx l i=some v):i.toNat < (List.map enc l).length∧(cellsOf (av (List.map enc l) i.toNat)).length=sz:=by
 obtain ⟨h1,h2⟩:=Qea (enc:=enc) h
 refine ⟨h2,?_⟩
 rw [Qcu h2,List.getElem_map]
 exact hsz _
theorem Qfa {α:Type} {enc:α→AV} {n:Nat} {x:AV} {v:α} (h:enc v=x):List.replicate n x=List.map enc (List.replicate n v):=by rw [← h,List.map_replicate]
theorem Qfb {α:Type} {enc:α→AV}:([]:List AV)=List.map enc []:=rfl
theorem Qfc {α:Type} {enc:α→AV} {v:α} {x:AV} {l:List AV} {vs:List α} (h:enc v=x) (h2:l=List.map enc vs):x :: l=List.map enc (v :: vs):=by rw [← h,h2]; rfl
def Qfd (s:ByteArray) (i:Int):Option Int:=if 0 ≤ i∧i < (s.size:Int) then some (((s.data.getD i.toNat 0).toNat:Int)) else none
theorem Qfe {s:ByteArray} {i v:Int} (h:Qfd s i=some v):0 ≤ i∧i < (s.size:Int):=by
 unfold Qfd at h
 split at h
 ·assumption
 ·cases h
theorem Qff {d:Nat} {s:ByteArray} {i v:Int} (h:Qfd s i=some v):(⟨[(d,.int .u8 ((s.data.getD i.toNat 0).toNat:Int))],[],[]⟩:Wr)=⟨[(d,.int .u8 v)],[],[]⟩:=by
 unfold Qfd at h
 split at h
 ·simp only [Option.some.injEq] at h; rw [h]
 ·cases h
theorem Q1x.of_list {P:Program} (l:List (Nat × Q1o)) (h:∀ p ∈ l,Q1w P p.1 p.2):Q1x P (lk none (l.map fun p=>(p.1,some p.2))):=by
 intro t i hi
 rcases Qbq none (l.map fun p=>(p.1,some p.2)) t with h' | ⟨p,hp,h1,h2⟩
 ·rw [h'] at hi; cases hi
 ·rw [h2] at hi
  obtain ⟨q,hq,rfl⟩:=List.mem_map.1 hp
  simp only [Option.some.injEq] at hi
  subst hi
  simp only at h1
  subst h1
  exact h _ hq
end Go.Am
