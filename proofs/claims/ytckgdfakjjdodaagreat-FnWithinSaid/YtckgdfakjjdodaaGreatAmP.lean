/- Regions: the operations one by one in the text's order, then in whatever order. -/
import Derived.Test.YtckgdfakjjdodaaGreatAmCP
import Derived.Test.YtckgdfakjjdodaaGreatAmOF
import Derived.Test.YtckgdfakjjdodaaGreatAmAR
set_option linter.unusedSimpArgs false
set_option linter.unusedVariables false
namespace Go.Am
open Go.RowKit

section
variable {P:Program} {c:Ctx} {o:Oper} {σ:Q0a}

def Qb5 (TI:Nat→Option Q1o) (P:Program) (nt:Nat) (o:Oper) (σ:Q0a) (cl:Call) (r:Orc):Option Ev :=
 match cl.callee,cl.args.toList,cl.argTypes.toList,r with
 | .builtin .len,[x],[t],_=>Q4e TI nt o σ t x
 | .builtin .cap,[x],[t],_=>Q9u TI nt o σ t x
 | .builtin .append,[s,x],[t,t'],.new k=>bif Nat.beq t t' then Qaa TI nt o σ t s x k else Qa4 TI nt o σ t t' s x k
 | .builtin .append,[s,x],[t,t'],.mk k take=>bif Nat.beq t t' then Q6h TI nt o σ t s x k take else none
 | .builtin .copy,[x,y],[t,_],_=>Qb1 TI nt o σ t x y
 | .builtin .min,[x,y],_,_=>Q4h nt o σ false x y
 | .builtin .max,[x,y],_,_=>Q4h nt o σ true x y
 | .value (.func f),[x,y],_,.new k=>Qad nt o σ f x y k P
 | .value f,[x],_,.el res=>Qar nt o σ f x res P
 | .value f,xs,_,.call res [] k0=>Q7z nt o σ f xs res k0 P
 | .value f,xs,_,.call res [.tup []] k0=>Q89 nt o σ f xs res k0 P
 | .value f,xs,_,.call res (ou :: outs) k0=>Q9r nt o σ f xs res (ou :: outs) k0 P
 | _,_,_,_=>none

def Qb6:AV→Bool
 | .nils=>true
 | _=>false
def Qb7:AV→Bool
 | .ra _ _=>true
 | _=>false
def Qb8:Orc→Bool
 | .mk _ b=>b
 | _=>true

def Qb9 (σ:Q0a):AV→Bool
 | .ea id _ _ _=>match σ.O id with | some (.arx _ _ _ _)=>true | _=>false
 | .rs id=>match σ.O id with | some (.arx _ _ _ _)=>true | _=>false
 | _=>false
def Qba:Orc→Bool
 | .el _=>true
 | _=>false

def Qbb (TI:Nat→Option Q1o) (t:Nat):Bool:=match shp TI t with | some (.array _ _)=>true | _=>false
def Qbc:AV→Bool
 | .agg _=>true
 | _=>false
def Qbd (TI:Nat→Option Q1o) (P:Program) (nt:Nat) (o:Oper) (σ:Q0a) (r:Orc):Option Ev :=
 match o.op with
 | .move x=>Q2n nt o σ x
 | .assign x=>Q2n nt o σ x
 | .pick x a b=>Q2p nt o σ x a b r
 | .alloc t=>Q4w TI nt o t r
 | .box t x=>Q4z TI nt o σ t x r
 | .build t ps=>bif Qbb TI t then Q8m TI nt o σ t ps.toList else Q5h TI nt o σ t ps.toList
 | .buildSlice t n ps=>match r with | .mk k own=>Q72 TI nt o σ t n ps.toList k own | .new k=>Qau TI nt o σ t n ps.toList k | .call _ _ k=>Qan TI nt o σ t n ps.toList k | _=>none
 | .load t x=>bif Qb9 σ (opv σ x) then Q8y TI nt o σ t x r else Q42 TI nt o σ t x r
 | .store t x y=>bif Qb7 (opv σ x) then Q5a TI o σ t x y else bif Qb9 σ (opv σ x) then Q8w TI o σ t x y r else bif Qba r then Q8q TI o σ t x y r else Q74 TI o σ t x y (Qb8 r)
 | .nilCheck x=>Q3d nt o σ x
 | .binOp op t x y _=>bif Qbc (opv σ x) then Q8j TI P nt o σ op t x y else Q2y TI nt o σ op t x y
 | .unOp op _ x=>Q37 nt o σ op x
 | .convert s d x=>Q39 TI nt o σ s d x
 | .makeFunc (.func f) first caps=>bif first.isEmpty then Q3h nt o σ f caps.toList else bif caps.isEmpty then Q3l nt o σ f first.toList else none
 | .makeSlice t l cp=>match r with | .mk k own=>Q6q TI nt o σ t l cp k own | _=>none
 | .slice t x lo hi none=>match r,hi with | .new k,_=>Qa0 TI nt o σ t x lo hi k | .cond _,none=>Qax TI nt o σ t x lo | _,_=>bif Qb6 (opv σ x) then Q9y TI nt o σ t x lo hi else Q48 TI nt o σ t x lo hi none
 | .slice t x lo hi mx=>Q48 TI nt o σ t x lo hi mx
 | .fieldAddr t x i=>Q3o TI nt o σ t x i
 | .field t x i=>Q3s TI nt o σ t x i
 | .indexAddr t x i=>bif Qb9 σ (opv σ x) then Q8u TI nt o σ t x i else Q3v TI nt o σ t x i r
 | .index t x i=>Q3f TI nt o σ t x i
 | .extract x i=>Q3b nt o σ x i
 | .call cl=>Qb5 TI P nt o σ cl r
 | _=>none

theorem Qbe {α:Type} {a:Array α} {l:List α} (h:a.toList=l):a=l.toArray:=by rw [← h]

theorem Qbf {TI:Nat→Option Q1o} (hTI:Q1x P TI) (cl:Call) (r:Orc) (ho:o.op=.call cl):Q2l P c o σ (Qb5 TI P c.nt o σ cl r):=by
 obtain ⟨callee,args,argTypes⟩:=cl
 unfold Qb5
 simp only
 split
 ·rename_i x t h2 h3
  have e2:=Qbe h2; have e3:=Qbe h3
  subst e2; subst e3
  exact Q4g hTI t x ho
 ·rename_i x t h2 h3
  have e2:=Qbe h2; have e3:=Qbe h3
  subst e2; subst e3
  exact Q9v hTI t x ho
 ·rename_i s x t t' k h2 h3
  have e2:=Qbe h2; have e3:=Qbe h3
  subst e2; subst e3
  refine .ite (fun hb=>?_) (fun _=>Qa7 hTI t t' s x k ho)
  have hb:=Nat.eq_of_beq_eq_true hb
  subst hb
  exact Qab hTI t s x k ho
 ·rename_i s x t t' k take h2 h3
  refine .ite (fun hb=>?_) (fun _=>.none)
  have hb:=Nat.eq_of_beq_eq_true hb
  subst hb
  have e2:=Qbe h2; have e3:=Qbe h3
  subst e2; subst e3
  exact Q6k hTI t s x k take ho
 ·rename_i x y t t' h2 h3
  have e2:=Qbe h2; have e3:=Qbe h3
  subst e2; subst e3
  exact Qb4 hTI t t' x y ho
 ·rename_i x y h2
  have e2:=Qbe h2
  subst e2
  exact Q4i false x y argTypes ho
 ·rename_i x y h2
  have e2:=Qbe h2
  subst e2
  exact Q4i true x y argTypes ho
 ·rename_i f x y k h2
  have e2:=Qbe h2
  subst e2
  exact Qae f x y ⟨argTypes,by rw [ho]⟩ k
 ·rename_i f x res h2
  have e2:=Qbe h2
  subst e2
  exact Qas f x ⟨argTypes,by rw [ho]⟩ res
 ·rename_i f res k0
  exact Q82 f args.toList ⟨argTypes,by rw [ho]⟩ res k0
 ·rename_i f res k0
  exact Q8e f args.toList ⟨argTypes,by rw [ho]⟩ res k0
 ·rename_i f res ou outs k0 _
  exact Q9t f args.toList ⟨argTypes,by rw [ho]⟩ res (ou :: outs) k0
 ·exact .none

theorem Qbg {TI:Nat→Option Q1o} (hTI:Q1x P TI) (r:Orc):Q2l P c o σ (Qbd TI P c.nt o σ r):=by
 unfold Qbd
 split
 ·rename_i x ho; exact Q2o x (.inl ho)
 ·rename_i x ho; exact Q2o x (.inr ho)
 ·rename_i x a b ho; exact Q2q x a b r ho
 ·rename_i t ho; exact Q4y hTI t r ho
 ·rename_i t x ho; exact Q50 hTI t x r ho
 ·rename_i t ps ho; exact .ite (fun _=>Q8n hTI t ps ho) (fun _=>Q5j hTI t ps ho)
 ·rename_i t n ps ho
  split
  ·rename_i k own; exact Q73 hTI t n ps k own ho
  ·rename_i k; exact Qav hTI t n ps k ho
  ·rename_i k; exact Qao hTI t n ps k ho
  ·exact .none
 ·rename_i t x ho; exact .ite (fun _=>Q8z hTI t x r ho) (fun _=>Q44 hTI t x r ho)
 ·rename_i t x y ho; exact .ite (fun _=>Q5b hTI t x y ho) (fun _=>.ite (fun _=>Q8x hTI t x y r ho) (fun _=>.ite (fun _=>Q8t hTI t x y r ho) (fun _=>Q76 hTI t x y _ ho)))
 ·rename_i x ho; exact Q3e x ho
 ·rename_i op t x y ty ho; exact .ite (fun _=>Q8l hTI op t x y ty ho) (fun _=>Q36 hTI op t x y ty ho)
 ·rename_i op t x ho; exact Q38 op t x ho
 ·rename_i s d x ho; exact Q3a hTI s d x ho
 ·rename_i f first caps ho
  refine .ite (fun hb=>?_) (fun _=>.ite (fun hb=>?_) (fun _=>.none))
  ·have:first=#[]:=by simpa using hb
   subst this
   exact Q3i f caps ho
  ·have:caps=#[]:=by simpa using hb
   subst this
   exact Q3m f first ho
 ·rename_i t l cp ho
  split
  ·rename_i k own; exact Q6r hTI t l cp k own ho
  ·exact .none
 ·rename_i t x lo hi ho
  split
  ·rename_i k; exact Qa1 hTI t x lo _ k ho
  ·exact Qaz hTI t x lo ho
  ·exact .ite (fun _=>Q9z hTI t x lo hi ho) (fun _=>Q4a hTI t x lo hi none ho)
 ·rename_i t x lo hi mx _ ho; exact Q4a hTI t x lo hi mx ho
 ·rename_i t x i ho; exact Q3p hTI t x i ho
 ·rename_i t x i ho; exact Q3u hTI t x i ho
 ·rename_i t x i ho; exact .ite (fun _=>Q8v hTI t x i ho) (fun _=>Q3x hTI t x i r ho)
 ·rename_i t x i ho; exact Q3g hTI t x i ho
 ·rename_i x i ho; exact Q3c x i ho
 ·rename_i cl ho; exact Qbf hTI cl r ho
 ·exact .none

def Qbh (TI:Nat→Option Q1o) (P:Program) (nt:Nat) (o:Oper) (σ:Q0a) (r:Orc):Option Ev :=
 match r with
 | .eqv r' wr=>match Qbd TI P nt o σ r' with | some ev=>some ⟨ev.rd,wr,(ev.wr=wr) :: ev.obs⟩ | none=>none
 | r=>Qbd TI P nt o σ r
theorem Qbi {TI:Nat→Option Q1o} (hTI:Q1x P TI) (r:Orc):Q2l P c o σ (Qbh TI P c.nt o σ r):=by
 unfold Qbh
 split
 ·rename_i r' wr
  split
  ·rename_i ev hev
   intro ev' h hobs
   simp only [Option.some.injEq] at h
   subst h
   have e:ev.wr=wr:=hobs _ List.mem_cons_self
   subst e
   exact Qbg hTI r' ev hev (fun p hp=>hobs p (List.mem_cons_of_mem _ hp))
  ·exact .none
 ·exact Qbg hTI _

def Qbj (ops:List Oper) (j:Nat):Option Nat:=(ops[j]?).bind (·.dst)

def evG (TI:Nat→Option Q1o) (P:Program) (nt:Nat) (ops:List Oper) (o:Oper) (σ:Q0a) (r:Option Orc):Option Ev :=
 match o.guard,r with
 | none,some r=>Qbh TI P nt o σ r
 | some (j,want),some r =>
  match Qbj ops j with
  | some dj =>
   match σ.T dj with
   | .bool b =>
    match Qbh TI P nt o σ r with
    | some ev=>some ⟨⟨dj :: ev.rd.t,ev.rd.o⟩,ev.wr,(b=want) :: ev.obs⟩
    | none=>none
   | _=>none
  | none=>none
 | some (j,want),none =>
  match Qbj ops j,o.dst with
  | some dj,some d =>
   match σ.T dj with
   | .bool b=>bif Nat.blt d nt then some ⟨⟨[dj],[]⟩,⟨[(d,.tup [])],[],[]⟩,[b ≠ want]⟩ else none
   | .tup _=>bif Nat.blt d nt then some ⟨⟨[dj],[]⟩,⟨[(d,.tup [])],[],[]⟩,[]⟩ else none
   | _=>none
  | some dj,none =>
   match σ.T dj with
   | .bool b=>some ⟨⟨[dj],[]⟩,⟨[],[],[]⟩,[b ≠ want]⟩
   | .tup _=>some ⟨⟨[dj],[]⟩,⟨[],[],[]⟩,[]⟩
   | _=>none
  | _,_=>none
 | _,_=>none

theorem SRx.yieldT {τ:Q0a} {a:Act} {w:World} {ops:Array Oper} {j dj:Nat} {vs:List AV} (hs:SRx c τ a w) (hd:Qbj ops.toList j=some dj) (hT:τ.T dj=.tup vs):yielded ops a.tmps j=none:=by
 obtain ⟨β,fp,Sh,hs⟩:=hs
 have h:=hs.tm dj
 rw [hT] at h
 obtain ⟨cc,h,_⟩:=h.tup_inv
 have h1:(ops[j]?).bind (·.dst)=some dj:=by simpa [Qbj] using hd
 unfold yielded
 rw [h1]
 simp only [Option.bind_some]
 rw [Array.getD_eq_getD_getElem?] at h
 cases h2:a.tmps[dj]? with
 | none=>rfl
 | some v=>rw [h2] at h; simp at h; rw [h]
theorem Qbk {w:World} {Sh:Nat→Prop} {β:Nat→Value}:Q0f w Sh β undef (.tup []):=.base _ _ (.tup #[] [] rfl (fun i hi=>by simp at hi))

theorem SRx.yield {τ:Q0a} {a:Act} {w:World} {ops:Array Oper} {j dj:Nat} {b:Bool} (hs:SRx c τ a w) (hd:Qbj ops.toList j=some dj) (hT:τ.T dj=.bool b):yielded ops a.tmps j=some b:=by
 obtain ⟨β,fp,Sh,hs⟩:=hs
 have h:=hs.tm dj
 rw [hT] at h
 have h:=h.bool_inv
 have h1:(ops[j]?).bind (·.dst)=some dj:=by simpa [Qbj] using hd
 unfold yielded
 rw [h1]
 simp only [Option.bind_some]
 rw [Array.getD_eq_getD_getElem?] at h
 cases h2:a.tmps[dj]? with
 | none=>rw [h2] at h; simp [undef] at h
 | some v=>rw [h2] at h; simp at h; rw [h]

theorem Qbl {TI:Nat→Option Q1o} (hTI:Q1x P TI) {ops:Array Oper} {i:Nat} (hi:ops[i]?=some o) (r:Option Orc) (ev:Ev) (h:evG TI P c.nt ops.toList o σ r=some ev) (hobs:∀ p ∈ ev.obs,p):Q0p P c ops i ev.rd ev.wr σ:=by
 intro τ hag hfr a w hsr K Q hK
 unfold wpOp
 rw [hi]
 simp only
 unfold evG at h
 split at h
 ·rename_i r' hg
  have hw:Region.wanted o (yielded ops a.tmps)=true:=by simp [Region.wanted,hg]
  rw [if_pos hw]
  exact .inl (Qbi hTI r' ev h hobs τ hag hfr a w hsr K Q hK)
 ·rename_i j want r' hg
  split at h
  ·rename_i dj hdj
   split at h
   ·rename_i b hT
    split at h
    ·rename_i ev' hev
     simp only [Option.some.injEq] at h
     subst h
     have hbw:b=want:=hobs _ List.mem_cons_self
     have hT':τ.T dj=.bool b:=(hag.1 dj List.mem_cons_self).trans hT
     have hw:Region.wanted o (yielded ops a.tmps)=true:=by simp [Region.wanted,hg,hsr.yield hdj hT',hbw]
     rw [if_pos hw]
     exact .inl (Qbi hTI r' ev' hev (fun p hp=>hobs p (List.mem_cons_of_mem _ hp)) τ ⟨fun t ht=>hag.1 t (List.mem_cons_of_mem _ ht),hag.2⟩ hfr a w hsr K Q hK)
    ·cases h
   ·cases h
  ·cases h
 ·rename_i j want hg
  split at h
  ·rename_i dj d hdj hd
   split at h
   ·rename_i b hT
    cases hb:Nat.blt d c.nt with
    | false=>simp [hb] at h
    | true =>
     simp only [hb,cond_true,Option.some.injEq] at h
     subst h
     have hbw:b ≠ want:=hobs _ List.mem_cons_self
     have hT':τ.T dj=.bool b:=(hag.1 dj List.mem_cons_self).trans hT
     have hw:Region.wanted o (yielded ops a.tmps)=false:=by simp [Region.wanted,hg,hsr.yield hdj hT',hbw]
     rw [if_neg (by simp [hw])]
     obtain ⟨β,fp,Sh,hs⟩:=hsr
     rw [hd]
     exact hK _ _ ⟨β,fp,Sh,hs.put d (by simpa [Nat.blt_eq] using hb) undef (.tup []) Qbk⟩
   ·rename_i vs hT
    cases hb:Nat.blt d c.nt with
    | false=>simp [hb] at h
    | true =>
     simp only [hb,cond_true,Option.some.injEq] at h
     subst h
     have hT':τ.T dj=.tup vs:=(hag.1 dj List.mem_cons_self).trans hT
     have hw:Region.wanted o (yielded ops a.tmps)=false:=by simp [Region.wanted,hg,hsr.yieldT hdj hT']
     rw [if_neg (by simp [hw])]
     obtain ⟨β,fp,Sh,hs⟩:=hsr
     rw [hd]
     exact hK _ _ ⟨β,fp,Sh,hs.put d (by simpa [Nat.blt_eq] using hb) undef (.tup []) Qbk⟩
   ·cases h
  ·rename_i dj hdj hd
   split at h
   ·rename_i b hT
    simp only [Option.some.injEq] at h
    subst h
    have hbw:b ≠ want:=hobs _ List.mem_cons_self
    have hT':τ.T dj=.bool b:=(hag.1 dj List.mem_cons_self).trans hT
    have hw:Region.wanted o (yielded ops a.tmps)=false:=by simp [Region.wanted,hg,hsr.yield hdj hT',hbw]
    rw [if_neg (by simp [hw]),hd]
    exact hK _ _ hsr
   ·rename_i vs hT
    simp only [Option.some.injEq] at h
    subst h
    have hT':τ.T dj=.tup vs:=(hag.1 dj List.mem_cons_self).trans hT
    have hw:Region.wanted o (yielded ops a.tmps)=false:=by simp [Region.wanted,hg,hsr.yieldT hdj hT']
    rw [if_neg (by simp [hw]),hd]
    exact hK _ _ hsr
   ·cases h
  ·cases h
 ·cases h

structure Run where
 st:Q0a
 pl:List PL
 obs:List Prop

def Qbm (TI:Nat→Option Q1o) (P:Program) (nt:Nat) (all:List Oper):List Oper→List (Option Orc)→Q0a→Option Run
 | [],_,σ=>some ⟨σ,[],[]⟩
 | o :: os,rs,σ =>
  match evG TI P nt all o σ (rs.headD none) with
  | some ev =>
   match Qbm TI P nt all os rs.tail (σ.app ev.wr) with
   | some run=>some ⟨run.st,⟨ev.rd,ev.wr⟩ :: run.pl,ev.obs ++ run.obs⟩
   | none=>none
  | none=>none

theorem Qbn (p:PL) (pl:List PL) (σ:Q0a) (i:Nat):st (p :: pl) (fun _=>true) σ (i + 1)=st pl (fun _=>true) (σ.app p.wr) i:=by
 induction i with
 | zero=>simp [st]
 | succ i ih =>
  have e:(p :: pl).getD (i + 1) default=pl.getD i default:=rfl
  rw [show st (p :: pl) (fun _=>true) σ (i + 1 + 1)=(st (p :: pl) (fun _=>true) σ (i + 1)).app ((p :: pl).getD (i + 1) default).wr from by simp [st],ih,e]
  simp [st]

theorem Qbo {TI:Nat→Option Q1o} (hTI:Q1x P TI) {ops:Array Oper}:∀ (os:List Oper) (rs:List (Option Orc)) (σ:Q0a) (k:Nat) (run:Run),(∀ i,i < os.length→ops[k + i]?=os[i]?)→Qbm TI P c.nt ops.toList os rs σ=some run→(∀ p ∈ run.obs,p) →
  run.pl.length=os.length∧st run.pl (fun _=>true) σ os.length=run.st∧∀ i,i < os.length→Q0p P c ops (k + i) (run.pl.getD i default).rd (run.pl.getD i default).wr (st run.pl (fun _=>true) σ i)
 | [],rs,σ,k,run,_,h,_=>by
  simp only [Qbm,Option.some.injEq] at h
  subst h
  exact ⟨rfl,rfl,fun i hi=>by simp at hi⟩
 | o :: os,rs,σ,k,run,hops,h,hobs=>by
  simp only [Qbm] at h
  split at h
  ·rename_i ev hev
   split at h
   ·rename_i run' hrun
    simp only [Option.some.injEq] at h
    subst h
    have h0:ops[k]?=some o:=by have:=hops 0 (by simp); simpa using this
    have hstep:=Qbl hTI h0 _ ev hev (fun p hp=>hobs p (List.mem_append_left _ hp))
    obtain ⟨q1,q2,q3⟩:=Qbo hTI os rs.tail (σ.app ev.wr) (k + 1) run' (fun i hi=>by
     have:=hops (i + 1) (by simp; omega)
     rw [show k + 1 + i=k + (i + 1) by omega]
     simpa using this) hrun (fun p hp=>hobs p (List.mem_append_right _ hp))
    refine ⟨by simp [q1],by rw [List.length_cons,Qbn]; exact q2,fun i hi=>?_⟩
    cases i with
    | zero=>exact hstep
    | succ i =>
     rw [Qbn]
     have:=q3 i (by simp at hi; omega)
     rw [show k + 1 + i=k + (i + 1) by omega] at this
     exact this
   ·cases h
  ·cases h

def mkS (T:List (Nat × AV)) (O:List (Nat × Q09)):Q0a:=⟨lk .undef T,lk none (O.map fun p=>(p.1,some p.2))⟩

def Qbp (T:List (Nat × AV)) (O:List (Nat × Q09)) (k:Nat):Bool:=Nat.blt k 1000 && (T.all fun p=>!(refs p.2).contains k) && (O.all fun p=>!Nat.beq p.1 k && !p.2.refs.contains k)

theorem Qbq {α:Type} (d:α):∀ (l:List (Nat × α)) (t:Nat),lk d l t=d∨∃ p ∈ l,p.1=t∧lk d l t=p.2
 | [],t=>.inl rfl
 | (k,v) :: r,t=>by
  simp only [lk]
  cases h:Nat.beq t k with
  | true=>exact .inr ⟨(k,v),List.mem_cons_self,(Nat.eq_of_beq_eq_true h).symm,rfl⟩
  | false =>
   rcases Qbq d r t with h' | ⟨p,hp,h1,h2⟩
   ·exact .inl h'
   ·exact .inr ⟨p,List.mem_cons_of_mem _ hp,h1,h2⟩

theorem Qbr {T:List (Nat × AV)} {O:List (Nat × Q09)} {k:Nat} (h:Qbp T O k=true):¬ Q0e (mkS T O) k∧(mkS T O).O k=none:=by
 simp only [Qbp,Bool.and_eq_true,List.all_eq_true,Bool.not_eq_true'] at h
 obtain ⟨⟨hz,hT⟩,hO⟩:=h
 have hz:¬ 1000 ≤ k:=by simp only [Nat.blt_eq] at hz; omega
 have no:∀ {l:List Nat},l.contains k=false→k ∉ l:=fun h hm=>by rw [List.contains_iff_mem.2 hm] at h; cases h
 refine ⟨?_,?_⟩
 ·rintro ((h0 | ⟨t,ht⟩) | ⟨id,o,ho,hk⟩)
  ·exact hz h0
  ·rcases Qbq AV.undef T t with h | ⟨p,hp,h1,h2⟩
   ·change k ∈ refs (lk .undef T t) at ht
    rw [h] at ht; simp [refs] at ht
   ·change k ∈ refs (lk .undef T t) at ht
    rw [h2] at ht; exact no (hT p hp) ht
  ·change lk none (O.map fun p=>(p.1,some p.2)) id=some o at ho
   rcases Qbq none (O.map fun p=>(p.1,some p.2)) id with h | ⟨p,hp,h1,h2⟩
   ·rw [h] at ho; cases ho
   ·rw [h2] at ho
    obtain ⟨q,hq,rfl⟩:=List.mem_map.1 hp
    simp only [Option.some.injEq] at ho
    subst ho
    exact no (hO q hq).2 hk
 ·show lk none (O.map fun p=>(p.1,some p.2)) k=none
  rcases Qbq none (O.map fun p=>(p.1,some p.2)) k with h | ⟨p,hp,h1,h2⟩
  ·exact h
  ·obtain ⟨q,hq,rfl⟩:=List.mem_map.1 hp
   have:=(hO q hq).1
   simp only at h1
   rw [h1] at this
   simp at this

def Qbs (σ:Q0a) (kt ko:List Nat):List (Nat × AV) × List (Nat × Option Q09):=(kt.map fun k=>(k,σ.T k),ko.map fun k=>(k,σ.O k))

theorem SRx.le {τ:Q0a} {a:Act} {w:World} (h:SRx c σ a w) (hT:∀ t,τ.T t=.undef∨τ.T t=σ.T t) (hO:∀ k,τ.O k=none∨τ.O k=σ.O k):SRx c τ a w:=by
 obtain ⟨β,fp,Sh,h⟩:=h
 have some_of:∀ id,(τ.O id).isSome→τ.O id=σ.O id:=fun id hs=>(hO id).resolve_left (fun e=>by rw [e] at hs; cases hs)
 exact ⟨β,fp,Sh,{
  df:=h.df
  sz:=h.sz
  tm:=fun t=>by
   rcases hT t with e | e
   ·rw [e]; exact .base _ _ (.undef _)
   ·rw [e]; exact h.tm t
  ob:=fun id o ho=>h.ob id o (by rw [← some_of id (by rw [ho]; rfl)]; exact ho)
  dj:=fun id id' b h1 h2 h3 h4=>h.dj id id' b (by rw [← some_of id h1]; exact h1) (by rw [← some_of id' h2]; exact h2) h3 h4
  fb:=fun id b h1 h2=>h.fb id b (by rw [← some_of id h1]; exact h1) h2
  shl:=h.shl
  sh0:=h.sh0
  fr:=h.fr
  pn:=fun k hz h1=>h.pn k hz (by rw [← some_of k h1]; exact h1) }⟩

end
end Go.Am
