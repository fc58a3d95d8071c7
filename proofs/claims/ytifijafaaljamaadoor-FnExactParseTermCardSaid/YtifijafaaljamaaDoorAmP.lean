/- Regions: the operations one by one in the text's order, then in whatever order. -/
import Derived.Test.YtifijafaaljamaaDoorAmCP
import Derived.Test.YtifijafaaljamaaDoorAmOF
import Derived.Test.YtifijafaaljamaaDoorAmAR
import Derived.Test.YtifijafaaljamaaDoorAmXB
import Derived.Test.YtifijafaaljamaaDoorAmXE
set_option linter.unusedSimpArgs false
set_option linter.unusedVariables false
namespace Go.Am
open Go.RowKit

section
variable {P:Program} {c:Ctx} {o:Oper} {σ:Q0d}

def Qbl (TI:Nat→Option Q1r) (P:Program) (nt:Nat) (o:Oper) (σ:Q0d) (cl:Call) (r:Orc):Option Ev :=
 match cl.callee,cl.args.toList,cl.argTypes.toList,r with
 | .builtin .len,[x],[t],_=>Q4h TI nt o σ t x
 | .builtin .cap,[x],[t],_=>Qaa TI nt o σ t x
 | .builtin .append,[s,x],[t,t'],.new k=>bif Nat.beq t t' then Qaq TI nt o σ t s x k else Qak TI nt o σ t t' s x k
 | .builtin .append,[s,x],[t,t'],.mk k take=>bif Nat.beq t t' then Q6k TI nt o σ t s x k take else none
 | .builtin .copy,[x,y],[t,_],_=>Qbh TI nt o σ t x y
 | .builtin .min,[x,y],_,_=>Q4k nt o σ false x y
 | .builtin .max,[x,y],_,_=>Q4k nt o σ true x y
 | .value (.func f),[x,y],_,.cond _=>Q8s nt o σ f x y P
 | .value (.func f),[x,y],_,.new k=>Qat nt o σ f x y k P
 | .value f,[x],_,.el res=>Qb7 nt o σ f x res P
 | .value f,xs,_,.call res [] k0=>Q82 nt o σ f xs res k0 P
 | .value f,xs,_,.call res [.tup []] k0=>Q8c nt o σ f xs res k0 P
 | .value f,xs,_,.call res (ou :: outs) k0=>Qa7 nt o σ f xs res (ou :: outs) k0 P
 | _,_,_,_=>none

def Qbm:AV→Bool
 | .nils=>true
 | _=>false
def Qbn:AV→Bool
 | .ra _ _=>true
 | _=>false
def Qbo:Orc→Bool
 | .mk _ b=>b
 | _=>true

def Qbp (σ:Q0d):AV→Bool
 | .ea id _ _ _=>match σ.O id with | some (.arx _ _ _ _)=>true | _=>false
 | .rs id=>match σ.O id with | some (.arx _ _ _ _)=>true | _=>false
 | _=>false
def Qbq:Orc→Bool
 | .el _=>true
 | _=>false

def Qbr (TI:Nat→Option Q1r) (t:Nat):Bool:=match shp TI t with | some (.array _ _)=>true | _=>false
def Qbs:AV→Bool
 | .agg _=>true
 | _=>false
def Qbt (TI:Nat→Option Q1r) (P:Program) (nt:Nat) (o:Oper) (σ:Q0d) (r:Orc):Option Ev :=
 match o.op with
 | .move x=>Q2q nt o σ x
 | .assign x=>Q2q nt o σ x
 | .pick x a b=>Q2s nt o σ x a b r
 | .alloc t=>Q4z TI nt o t r
 | .box t x=>Q52 TI nt o σ t x r
 | .build t ps=>bif Qbr TI t then Q8p TI nt o σ t ps.toList else Q5k TI nt o σ t ps.toList
 | .buildSlice t n ps=>match r with | .mk k own=>Q75 TI nt o σ t n ps.toList k own | .new k=>Qba TI nt o σ t n ps.toList k | .call _ _ k=>Qb3 TI nt o σ t n ps.toList k | _=>none
 | .load t x=>bif Qbp σ (opv σ x) then Q9e TI nt o σ t x r else Q45 TI nt o σ t x r
 | .store t x y=>bif Qbn (opv σ x) then Q5d TI o σ t x y else bif Qbp σ (opv σ x) then Q9c TI o σ t x y r else bif Qbq r then Q96 TI o σ t x y r else Q77 TI o σ t x y (Qbo r)
 | .nilCheck x=>Q3g nt o σ x
 | .binOp op t x y _=>bif Q8v (opv σ x) then Q8w nt o σ op t x y P else bif Qbs (opv σ x) then Q8m TI P nt o σ op t x y else Q31 TI nt o σ op t x y
 | .unOp op _ x=>Q3a nt o σ op x
 | .convert s d x=>match r with | .cond _=>Q90 TI nt o σ s d x | _=>Q3c TI nt o σ s d x
 | .makeFunc (.func f) first caps=>bif first.isEmpty then Q3k nt o σ f caps.toList else bif caps.isEmpty then Q3o nt o σ f first.toList else none
 | .makeSlice t l cp=>match r with | .mk k own=>Q6t TI nt o σ t l cp k own | _=>none
 | .slice t x lo hi none=>match r,hi with | .new k,_=>Qag TI nt o σ t x lo hi k | .cond _,none=>Qbd TI nt o σ t x lo | _,_=>bif Qbm (opv σ x) then Qae TI nt o σ t x lo hi else Q4b TI nt o σ t x lo hi none
 | .slice t x lo hi mx=>Q4b TI nt o σ t x lo hi mx
 | .fieldAddr t x i=>Q3r TI nt o σ t x i
 | .field t x i=>Q3v TI nt o σ t x i
 | .indexAddr t x i=>bif Qbp σ (opv σ x) then Q9a TI nt o σ t x i else Q3y TI nt o σ t x i r
 | .index t x i=>Q3i TI nt o σ t x i
 | .extract x i=>Q3e nt o σ x i
 | .call cl=>Qbl TI P nt o σ cl r
 | _=>none

theorem Qbu {α:Type} {a:Array α} {l:List α} (h:a.toList=l):a=l.toArray:=by rw [← h]

theorem Qbv {TI:Nat→Option Q1r} (hTI:Q20 P TI) (cl:Call) (r:Orc) (ho:o.op=.call cl):Q2o P c o σ (Qbl TI P c.nt o σ cl r):=by
 obtain ⟨callee,args,argTypes⟩:=cl
 unfold Qbl
 simp only
 split
 ·rename_i x t h2 h3
  have e2:=Qbu h2; have e3:=Qbu h3
  subst e2; subst e3
  exact Q4j hTI t x ho
 ·rename_i x t h2 h3
  have e2:=Qbu h2; have e3:=Qbu h3
  subst e2; subst e3
  exact Qab hTI t x ho
 ·rename_i s x t t' k h2 h3
  have e2:=Qbu h2; have e3:=Qbu h3
  subst e2; subst e3
  refine .ite (fun hb=>?_) (fun _=>Qan hTI t t' s x k ho)
  have hb:=Nat.eq_of_beq_eq_true hb
  subst hb
  exact Qar hTI t s x k ho
 ·rename_i s x t t' k take h2 h3
  refine .ite (fun hb=>?_) (fun _=>.none)
  have hb:=Nat.eq_of_beq_eq_true hb
  subst hb
  have e2:=Qbu h2; have e3:=Qbu h3
  subst e2; subst e3
  exact Q6n hTI t s x k take ho
 ·rename_i x y t t' h2 h3
  have e2:=Qbu h2; have e3:=Qbu h3
  subst e2; subst e3
  exact Qbk hTI t t' x y ho
 ·rename_i x y h2
  have e2:=Qbu h2
  subst e2
  exact Q4l false x y argTypes ho
 ·rename_i x y h2
  have e2:=Qbu h2
  subst e2
  exact Q4l true x y argTypes ho
 ·rename_i f x y b h2
  have e2:=Qbu h2
  subst e2
  exact Q8t f x y ⟨argTypes,by rw [ho]⟩
 ·rename_i f x y k h2
  have e2:=Qbu h2
  subst e2
  exact Qau f x y ⟨argTypes,by rw [ho]⟩ k
 ·rename_i f x res h2
  have e2:=Qbu h2
  subst e2
  exact Qb8 f x ⟨argTypes,by rw [ho]⟩ res
 ·rename_i f res k0
  exact Q85 f args.toList ⟨argTypes,by rw [ho]⟩ res k0
 ·rename_i f res k0
  exact Q8h f args.toList ⟨argTypes,by rw [ho]⟩ res k0
 ·rename_i f res ou outs k0 _
  exact Qa9 f args.toList ⟨argTypes,by rw [ho]⟩ res (ou :: outs) k0
 ·exact .none

theorem Qbw {TI:Nat→Option Q1r} (hTI:Q20 P TI) (r:Orc):Q2o P c o σ (Qbt TI P c.nt o σ r):=by
 unfold Qbt
 split
 ·rename_i x ho; exact Q2r x (.inl ho)
 ·rename_i x ho; exact Q2r x (.inr ho)
 ·rename_i x a b ho; exact Q2t x a b r ho
 ·rename_i t ho; exact Q51 hTI t r ho
 ·rename_i t x ho; exact Q53 hTI t x r ho
 ·rename_i t ps ho; exact .ite (fun _=>Q8q hTI t ps ho) (fun _=>Q5m hTI t ps ho)
 ·rename_i t n ps ho
  split
  ·rename_i k own; exact Q76 hTI t n ps k own ho
  ·rename_i k; exact Qbb hTI t n ps k ho
  ·rename_i k; exact Qb4 hTI t n ps k ho
  ·exact .none
 ·rename_i t x ho; exact .ite (fun _=>Q9f hTI t x r ho) (fun _=>Q47 hTI t x r ho)
 ·rename_i t x y ho; exact .ite (fun _=>Q5e hTI t x y ho) (fun _=>.ite (fun _=>Q9d hTI t x y r ho) (fun _=>.ite (fun _=>Q99 hTI t x y r ho) (fun _=>Q79 hTI t x y _ ho)))
 ·rename_i x ho; exact Q3h x ho
 ·rename_i op t x y ty ho; exact .ite (fun _=>Q8y op t x y ty ho) (fun _=>.ite (fun _=>Q8o hTI op t x y ty ho) (fun _=>Q39 hTI op t x y ty ho))
 ·rename_i op t x ho; exact Q3b op t x ho
 ·rename_i s d x ho
  split
  ·exact Q91 hTI s d x ho
  ·exact Q3d hTI s d x ho
 ·rename_i f first caps ho
  refine .ite (fun hb=>?_) (fun _=>.ite (fun hb=>?_) (fun _=>.none))
  ·have:first=#[]:=by simpa using hb
   subst this
   exact Q3l f caps ho
  ·have:caps=#[]:=by simpa using hb
   subst this
   exact Q3p f first ho
 ·rename_i t l cp ho
  split
  ·rename_i k own; exact Q6u hTI t l cp k own ho
  ·exact .none
 ·rename_i t x lo hi ho
  split
  ·rename_i k; exact Qah hTI t x lo _ k ho
  ·exact Qbf hTI t x lo ho
  ·exact .ite (fun _=>Qaf hTI t x lo hi ho) (fun _=>Q4d hTI t x lo hi none ho)
 ·rename_i t x lo hi mx _ ho; exact Q4d hTI t x lo hi mx ho
 ·rename_i t x i ho; exact Q3s hTI t x i ho
 ·rename_i t x i ho; exact Q3x hTI t x i ho
 ·rename_i t x i ho; exact .ite (fun _=>Q9b hTI t x i ho) (fun _=>Q40 hTI t x i r ho)
 ·rename_i t x i ho; exact Q3j hTI t x i ho
 ·rename_i x i ho; exact Q3f x i ho
 ·rename_i cl ho; exact Qbv hTI cl r ho
 ·exact .none

def Qbx (TI:Nat→Option Q1r) (P:Program) (nt:Nat) (o:Oper) (σ:Q0d) (r:Orc):Option Ev :=
 match r with
 | .eqv r' wr=>match Qbt TI P nt o σ r' with | some ev=>some ⟨ev.rd,wr,(ev.wr=wr) :: ev.obs⟩ | none=>none
 | r=>Qbt TI P nt o σ r
theorem Qby {TI:Nat→Option Q1r} (hTI:Q20 P TI) (r:Orc):Q2o P c o σ (Qbx TI P c.nt o σ r):=by
 unfold Qbx
 split
 ·rename_i r' wr
  split
  ·rename_i ev hev
   intro ev' h hobs
   simp only [Option.some.injEq] at h
   subst h
   have e:ev.wr=wr:=hobs _ List.mem_cons_self
   subst e
   exact Qbw hTI r' ev hev (fun p hp=>hobs p (List.mem_cons_of_mem _ hp))
  ·exact .none
 ·exact Qbw hTI _

def Qbz (ops:List Oper) (j:Nat):Option Nat:=(ops[j]?).bind (·.dst)

def evG (TI:Nat→Option Q1r) (P:Program) (nt:Nat) (ops:List Oper) (o:Oper) (σ:Q0d) (r:Option Orc):Option Ev :=
 match o.guard,r with
 | none,some r=>Qbx TI P nt o σ r
 | some (j,want),some r =>
  match Qbz ops j with
  | some dj =>
   match σ.T dj with
   | .bool b =>
    match Qbx TI P nt o σ r with
    | some ev=>some ⟨⟨dj :: ev.rd.t,ev.rd.o⟩,ev.wr,(b=want) :: ev.obs⟩
    | none=>none
   | _=>none
  | none=>none
 | some (j,want),none =>
  match Qbz ops j,o.dst with
  | some dj,some d =>
   match σ.T dj with
   | .bool b=>bif Nat.blt d nt then some ⟨⟨[dj],[]⟩,⟨[(d,.tup [])],[],[]⟩,[b ≠ want]⟩ else none
   | .tup _=>bif Nat.blt d nt then some ⟨⟨[dj],[]⟩,⟨[(d,.tup [])],[],[]⟩,[]⟩ else none
   | _=>none
  | some dj,none =>
   match σ.T dj with
   | .bool b=>some ⟨⟨[dj],[]⟩,⟨[],[],[]⟩,[b ≠ want]⟩
   | .tup _=>some ⟨⟨[dj],[]⟩,⟨[],[],[]⟩,[]⟩
   | _=>none
  | _,_=>none
 | _,_=>none

theorem SRx.yieldT {τ:Q0d} {a:Act} {w:World} {ops:Array Oper} {j dj:Nat} {vs:List AV} (hs:SRx c τ a w) (hd:Qbz ops.toList j=some dj) (hT:τ.T dj=.tup vs):yielded ops a.tmps j=none:=by
 obtain ⟨β,fp,Sh,hs⟩:=hs
 have h:=hs.tm dj
 rw [hT] at h
 obtain ⟨cc,h,_⟩:=h.tup_inv
 have h1:(ops[j]?).bind (·.dst)=some dj:=by simpa [Qbz] using hd
 unfold yielded
 rw [h1]
 simp only [Option.bind_some]
 rw [Array.getD_eq_getD_getElem?] at h
 cases h2:a.tmps[dj]? with
 | none=>rfl
 | some v=>rw [h2] at h; simp at h; rw [h]
theorem Qc0 {w:World} {Sh:Nat→Prop} {β:Nat→Value}:Q0i w Sh β undef (.tup []):=.base _ _ (.tup #[] [] rfl (fun i hi=>by simp at hi))

theorem SRx.yield {τ:Q0d} {a:Act} {w:World} {ops:Array Oper} {j dj:Nat} {b:Bool} (hs:SRx c τ a w) (hd:Qbz ops.toList j=some dj) (hT:τ.T dj=.bool b):yielded ops a.tmps j=some b:=by
 obtain ⟨β,fp,Sh,hs⟩:=hs
 have h:=hs.tm dj
 rw [hT] at h
 have h:=h.bool_inv
 have h1:(ops[j]?).bind (·.dst)=some dj:=by simpa [Qbz] using hd
 unfold yielded
 rw [h1]
 simp only [Option.bind_some]
 rw [Array.getD_eq_getD_getElem?] at h
 cases h2:a.tmps[dj]? with
 | none=>rw [h2] at h; simp [undef] at h
 | some v=>rw [h2] at h; simp at h; rw [h]

theorem Qc1 {TI:Nat→Option Q1r} (hTI:Q20 P TI) {ops:Array Oper} {i:Nat} (hi:ops[i]?=some o) (r:Option Orc) (ev:Ev) (h:evG TI P c.nt ops.toList o σ r=some ev) (hobs:∀ p ∈ ev.obs,p):Q0s P c ops i ev.rd ev.wr σ:=by
 intro τ hag hfr a w hsr K Q hK
 unfold wpOp
 rw [hi]
 simp only
 unfold evG at h
 split at h
 ·rename_i r' hg
  have hw:Region.wanted o (yielded ops a.tmps)=true:=by simp [Region.wanted,hg]
  rw [if_pos hw]
  exact .inl (Qby hTI r' ev h hobs τ hag hfr a w hsr K Q hK)
 ·rename_i j want r' hg
  split at h
  ·rename_i dj hdj
   split at h
   ·rename_i b hT
    split at h
    ·rename_i ev' hev
     simp only [Option.some.injEq] at h
     subst h
     have hbw:b=want:=hobs _ List.mem_cons_self
     have hT':τ.T dj=.bool b:=(hag.1 dj List.mem_cons_self).trans hT
     have hw:Region.wanted o (yielded ops a.tmps)=true:=by simp [Region.wanted,hg,hsr.yield hdj hT',hbw]
     rw [if_pos hw]
     exact .inl (Qby hTI r' ev' hev (fun p hp=>hobs p (List.mem_cons_of_mem _ hp)) τ ⟨fun t ht=>hag.1 t (List.mem_cons_of_mem _ ht),hag.2⟩ hfr a w hsr K Q hK)
    ·cases h
   ·cases h
  ·cases h
 ·rename_i j want hg
  split at h
  ·rename_i dj d hdj hd
   split at h
   ·rename_i b hT
    cases hb:Nat.blt d c.nt with
    | false=>simp [hb] at h
    | true =>
     simp only [hb,cond_true,Option.some.injEq] at h
     subst h
     have hbw:b ≠ want:=hobs _ List.mem_cons_self
     have hT':τ.T dj=.bool b:=(hag.1 dj List.mem_cons_self).trans hT
     have hw:Region.wanted o (yielded ops a.tmps)=false:=by simp [Region.wanted,hg,hsr.yield hdj hT',hbw]
     rw [if_neg (by simp [hw])]
     obtain ⟨β,fp,Sh,hs⟩:=hsr
     rw [hd]
     exact hK _ _ ⟨β,fp,Sh,hs.put d (by simpa [Nat.blt_eq] using hb) undef (.tup []) Qc0⟩
   ·rename_i vs hT
    cases hb:Nat.blt d c.nt with
    | false=>simp [hb] at h
    | true =>
     simp only [hb,cond_true,Option.some.injEq] at h
     subst h
     have hT':τ.T dj=.tup vs:=(hag.1 dj List.mem_cons_self).trans hT
     have hw:Region.wanted o (yielded ops a.tmps)=false:=by simp [Region.wanted,hg,hsr.yieldT hdj hT']
     rw [if_neg (by simp [hw])]
     obtain ⟨β,fp,Sh,hs⟩:=hsr
     rw [hd]
     exact hK _ _ ⟨β,fp,Sh,hs.put d (by simpa [Nat.blt_eq] using hb) undef (.tup []) Qc0⟩
   ·cases h
  ·rename_i dj hdj hd
   split at h
   ·rename_i b hT
    simp only [Option.some.injEq] at h
    subst h
    have hbw:b ≠ want:=hobs _ List.mem_cons_self
    have hT':τ.T dj=.bool b:=(hag.1 dj List.mem_cons_self).trans hT
    have hw:Region.wanted o (yielded ops a.tmps)=false:=by simp [Region.wanted,hg,hsr.yield hdj hT',hbw]
    rw [if_neg (by simp [hw]),hd]
    exact hK _ _ hsr
   ·rename_i vs hT
    simp only [Option.some.injEq] at h
    subst h
    have hT':τ.T dj=.tup vs:=(hag.1 dj List.mem_cons_self).trans hT
    have hw:Region.wanted o (yielded ops a.tmps)=false:=by simp [Region.wanted,hg,hsr.yieldT hdj hT']
    rw [if_neg (by simp [hw]),hd]
    exact hK _ _ hsr
   ·cases h
  ·cases h
 ·cases h

structure Run where
 st:Q0d
 pl:List PL
 obs:List Prop

def Qc2 (TI:Nat→Option Q1r) (P:Program) (nt:Nat) (all:List Oper):List Oper→List (Option Orc)→Q0d→Option Run
 | [],_,σ=>some ⟨σ,[],[]⟩
 | o :: os,rs,σ =>
  match evG TI P nt all o σ (rs.headD none) with
  | some ev =>
   match Qc2 TI P nt all os rs.tail (σ.app ev.wr) with
   | some run=>some ⟨run.st,⟨ev.rd,ev.wr⟩ :: run.pl,ev.obs ++ run.obs⟩
   | none=>none
  | none=>none

theorem Qc3 (p:PL) (pl:List PL) (σ:Q0d) (i:Nat):st (p :: pl) (fun _=>true) σ (i + 1)=st pl (fun _=>true) (σ.app p.wr) i:=by
 induction i with
 | zero=>simp [st]
 | succ i ih =>
  have e:(p :: pl).getD (i + 1) default=pl.getD i default:=rfl
  rw [show st (p :: pl) (fun _=>true) σ (i + 1 + 1)=(st (p :: pl) (fun _=>true) σ (i + 1)).app ((p :: pl).getD (i + 1) default).wr from by simp [st],ih,e]
  simp [st]

theorem Qc4 {TI:Nat→Option Q1r} (hTI:Q20 P TI) {ops:Array Oper}:∀ (os:List Oper) (rs:List (Option Orc)) (σ:Q0d) (k:Nat) (run:Run),(∀ i,i < os.length→ops[k + i]?=os[i]?)→Qc2 TI P c.nt ops.toList os rs σ=some run→(∀ p ∈ run.obs,p) →
  run.pl.length=os.length∧st run.pl (fun _=>true) σ os.length=run.st∧∀ i,i < os.length→Q0s P c ops (k + i) (run.pl.getD i default).rd (run.pl.getD i default).wr (st run.pl (fun _=>true) σ i)
 | [],rs,σ,k,run,_,h,_=>by
  simp only [Qc2,Option.some.injEq] at h
  subst h
  exact ⟨rfl,rfl,fun i hi=>by simp at hi⟩
 | o :: os,rs,σ,k,run,hops,h,hobs=>by
  simp only [Qc2] at h
  split at h
  ·rename_i ev hev
   split at h
   ·rename_i run' hrun
    simp only [Option.some.injEq] at h
    subst h
    have h0:ops[k]?=some o:=by have:=hops 0 (by simp); simpa using this
    have hstep:=Qc1 hTI h0 _ ev hev (fun p hp=>hobs p (List.mem_append_left _ hp))
    obtain ⟨q1,q2,q3⟩:=Qc4 hTI os rs.tail (σ.app ev.wr) (k + 1) run' (fun i hi=>by
     have:=hops (i + 1) (by simp; omega)
     rw [show k + 1 + i=k + (i + 1) by omega]
     simpa using this) hrun (fun p hp=>hobs p (List.mem_append_right _ hp))
    refine ⟨by simp [q1],by rw [List.length_cons,Qc3]; exact q2,fun i hi=>?_⟩
    cases i with
    | zero=>exact hstep
    | succ i =>
     rw [Qc3]
     have:=q3 i (by simp at hi; omega)
     rw [show k + 1 + i=k + (i + 1) by omega] at this
     exact this
   ·cases h
  ·cases h

def mkS (T:List (Nat × AV)) (O:List (Nat × Q0c)):Q0d:=⟨lk .undef T,lk none (O.map fun p=>(p.1,some p.2))⟩

def Qc5 (T:List (Nat × AV)) (O:List (Nat × Q0c)) (k:Nat):Bool:=Nat.blt k 1000 && (T.all fun p=>!(refs p.2).contains k) && (O.all fun p=>!Nat.beq p.1 k && !p.2.refs.contains k)

theorem Qc6 {α:Type} (d:α):∀ (l:List (Nat × α)) (t:Nat),lk d l t=d∨∃ p ∈ l,p.1=t∧lk d l t=p.2
 | [],t=>.inl rfl
 | (k,v) :: r,t=>by
  simp only [lk]
  cases h:Nat.beq t k with
  | true=>exact .inr ⟨(k,v),List.mem_cons_self,(Nat.eq_of_beq_eq_true h).symm,rfl⟩
  | false =>
   rcases Qc6 d r t with h' | ⟨p,hp,h1,h2⟩
   ·exact .inl h'
   ·exact .inr ⟨p,List.mem_cons_of_mem _ hp,h1,h2⟩

theorem Qc7 {T:List (Nat × AV)} {O:List (Nat × Q0c)} {k:Nat} (h:Qc5 T O k=true):¬ Q0h (mkS T O) k∧(mkS T O).O k=none:=by
 simp only [Qc5,Bool.and_eq_true,List.all_eq_true,Bool.not_eq_true'] at h
 obtain ⟨⟨hz,hT⟩,hO⟩:=h
 have hz:¬ 1000 ≤ k:=by simp only [Nat.blt_eq] at hz; omega
 have no:∀ {l:List Nat},l.contains k=false→k ∉ l:=fun h hm=>by rw [List.contains_iff_mem.2 hm] at h; cases h
 refine ⟨?_,?_⟩
 ·rintro ((h0 | ⟨t,ht⟩) | ⟨id,o,ho,hk⟩)
  ·exact hz h0
  ·rcases Qc6 AV.undef T t with h | ⟨p,hp,h1,h2⟩
   ·change k ∈ refs (lk .undef T t) at ht
    rw [h] at ht; simp [refs] at ht
   ·change k ∈ refs (lk .undef T t) at ht
    rw [h2] at ht; exact no (hT p hp) ht
  ·change lk none (O.map fun p=>(p.1,some p.2)) id=some o at ho
   rcases Qc6 none (O.map fun p=>(p.1,some p.2)) id with h | ⟨p,hp,h1,h2⟩
   ·rw [h] at ho; cases ho
   ·rw [h2] at ho
    obtain ⟨q,hq,rfl⟩:=List.mem_map.1 hp
    simp only [Option.some.injEq] at ho
    subst ho
    exact no (hO q hq).2 hk
 ·show lk none (O.map fun p=>(p.1,some p.2)) k=none
  rcases Qc6 none (O.map fun p=>(p.1,some p.2)) k with h | ⟨p,hp,h1,h2⟩
  ·exact h
  ·obtain ⟨q,hq,rfl⟩:=List.mem_map.1 hp
   have:=(hO q hq).1
   simp only at h1
   rw [h1] at this
   simp at this

def Qc8 (σ:Q0d) (kt ko:List Nat):List (Nat × AV) × List (Nat × Option Q0c):=(kt.map fun k=>(k,σ.T k),ko.map fun k=>(k,σ.O k))

theorem SRx.le {τ:Q0d} {a:Act} {w:World} (h:SRx c σ a w) (hT:∀ t,τ.T t=.undef∨τ.T t=σ.T t) (hO:∀ k,τ.O k=none∨τ.O k=σ.O k):SRx c τ a w:=by
 obtain ⟨β,fp,Sh,h⟩:=h
 have some_of:∀ id,(τ.O id).isSome→τ.O id=σ.O id:=fun id hs=>(hO id).resolve_left (fun e=>by rw [e] at hs; cases hs)
 exact ⟨β,fp,Sh,{
  df:=h.df
  sz:=h.sz
  tm:=fun t=>by
   rcases hT t with e | e
   ·rw [e]; exact .base _ _ (.undef _)
   ·rw [e]; exact h.tm t
  ob:=fun id o ho=>h.ob id o (by rw [← some_of id (by rw [ho]; rfl)]; exact ho)
  dj:=fun id id' b h1 h2 h3 h4=>h.dj id id' b (by rw [← some_of id h1]; exact h1) (by rw [← some_of id' h2]; exact h2) h3 h4
  fb:=fun id b h1 h2=>h.fb id b (by rw [← some_of id h1]; exact h1) h2
  shl:=h.shl
  sh0:=h.sh0
  fr:=h.fr
  pn:=fun k hz h1=>h.pn k hz (by rw [← some_of k h1]; exact h1) }⟩

end
end Go.Am
