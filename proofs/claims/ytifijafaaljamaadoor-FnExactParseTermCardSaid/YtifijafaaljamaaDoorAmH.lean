/- Operations that make, write or hand over the call's own objects. -/
import Derived.Test.YtifijafaaljamaaDoorAmG
set_option linter.unusedSimpArgs false
set_option linter.unusedVariables false
namespace Go.Am
open Go.RowKit

def upd {α:Type} (f:Nat→α) (k:Nat) (v:α) (j:Nat):α:=if j=k then v else f j
theorem Q4m {α:Type} (f:Nat→α) (k:Nat) (v:α):upd f k v k=v:=by simp [upd]
theorem Q4n {α:Type} (f:Nat→α) {k j:Nat} (v:α) (h:j ≠ k):upd f k v j=f j:=by simp [upd,h]

def Q4o (k:Nat) (o:Q0c) (ds:List Nat):List (Nat × Option Q0c):=(k,some o) :: ds.map fun d=>(d,none)
theorem Q4p (k:Nat) (o:Q0c) (ds:List Nat) (O:Nat→Option Q0c) (id:Nat):Q0n (Q4o k o ds) O id=if id=k then some o else if id ∈ ds then none else O id:=by
 unfold Q4o
 simp only [Q0n]
 by_cases h:id=k
 ·subst h; simp
 ·rw [Q2b h,if_neg h]
  simp only [cond_false]
  induction ds with
  | nil=>simp [Q0n]
  | cons d ds ih =>
   simp only [List.map_cons,Q0n]
   by_cases h2:id=d
   ·subst h2; simp
   ·rw [Q2b h2]; simp only [cond_false,ih,List.mem_cons,h2,false_or]

def Q4q (τ:Q0d) (fp:Nat→Nat→Prop) (k:Nat) (ds:List Nat) (b:Nat):Prop:=∃ id,(id ∈ ds∨id=k)∧(τ.O id).isSome∧fp id b

section
variable {c:Ctx} {β:Nat→Value} {fp:Nat→Nat→Prop} {Sh:Nat→Prop} {τ:Q0d} {a:Act} {w w':World}

theorem Q4r {k:Nat} {v:Value} {x:AV} (hk:k ∉ refs x∨β k=v):∀ j ∈ refs x,upd β k v j=β j:=by
 intro j hj
 by_cases e:j=k
 ·subst e
  rcases hk with hk | hk
  ·exact absurd hj hk
  ·rw [Q4m,hk]
 ·exact Q4n _ _ e

theorem SR.reset (h:SR c β fp Sh τ a w) (k:Nat) (ds:List Nat) (o:Q0c) (v:Value) (S:Nat→Prop) (hk:¬ Q0h τ k∨β k=v∧(τ.O k).isSome) (hw:Fr (Q4q τ fp k ds) w w')
  (ho:Q0m w' Sh (upd β k v) S v o) (hS:∀ b,S b→(Q4q τ fp k ds b∨w.heap.size ≤ b)∧b < w'.heap.size):SR c (upd β k v) (upd fp k S) Sh ⟨τ.T,Q0n (Q4o k o ds) τ.O⟩ a w':=by
 have hXfree:∀ b,Q4q τ fp k ds b→¬ Sh b∧b < w.heap.size∧(c.w0.heap.size ≤ b∨c.M b):=fun b ⟨id,_,h1,h2⟩=>h.fb id b h1 h2
 have hShw:∀ b,Sh b→w'.heap[b]?=w.heap[b]?:=fun b hb=>hw.block b (h.shl b hb).1 (fun hx=>(hXfree b hx).1 hb)
 have hold:∀ id,id ≠ k→id ∉ ds→(τ.O id).isSome→∀ b,fp id b→¬ Q4q τ fp k ds b:=by
  rintro id h1 h2 h3 b hb ⟨id',hid',h4,h5⟩
  have:=h.dj id id' b h3 h4 hb h5
  subst this
  rcases hid' with h' | h'
  ·exact h2 h'
  ·exact h1 h'
 have hO:∀ id,Q0n (Q4o k o ds) τ.O id=if id=k then some o else if id ∈ ds then none else τ.O id:=Q4p k o ds τ.O
 have hmono:w.heap.size ≤ w'.heap.size:=hw.size
 exact {
  df:=h.df
  sz:=h.sz
  tm:=fun t=>(h.tm t).mono hShw (fun _ hb=>hb) (Q4r (hk.imp (fun hn hm=>hn (.inl (.inr ⟨t,hm⟩))) (fun h=>h.1)))
  ob:=fun id o' ho'=>by
   change Q0n (Q4o k o ds) τ.O id=some o' at ho'
   rw [hO] at ho'
   by_cases e:id=k
   ·subst e
    rw [if_pos rfl] at ho'
    simp only [Option.some.injEq] at ho'
    subst ho'
    rw [Q4m,Q4m]; exact ho
   ·rw [if_neg e] at ho'
    by_cases e2:id ∈ ds
    ·rw [if_pos e2] at ho'; cases ho'
    ·rw [if_neg e2] at ho'
     rw [Q4n _ _ e,Q4n _ _ e]
     have hsome:(τ.O id).isSome:=by rw [ho']; rfl
     refine (h.ob id o' ho').mono hShw (fun b hb=>hw.block b (h.fb id b hsome hb).2.1 (hold id e e2 hsome b hb)) (fun _ hb=>hb) ?_
     intro j hj
     by_cases e3:j=k
     ·subst e3
      rcases hk with hk | hk
      ·exact absurd (.inr ⟨id,o',ho',hj⟩) hk
      ·rw [Q4m,hk.1]
     ·exact Q4n _ _ e3
  dj:=fun id id' b h1 h2 h3 h4=>by
   change (Q0n (Q4o k o ds) τ.O id).isSome at h1
   change (Q0n (Q4o k o ds) τ.O id').isSome at h2
   rw [hO] at h1 h2
   by_cases e:id=k
   ·by_cases e':id'=k
    ·rw [e,e']
    ·exfalso
     rw [if_neg e'] at h2
     by_cases e2:id' ∈ ds
     ·rw [if_pos e2] at h2; cases h2
     ·rw [if_neg e2] at h2
      rw [e,Q4m] at h3
      rw [Q4n _ _ e'] at h4
      rcases (hS b h3).1 with hx | hx
      ·exact hold id' e' e2 h2 b h4 hx
      ·have:=(h.fb id' b h2 h4).2.1; omega
   ·rw [if_neg e] at h1
    by_cases e2:id ∈ ds
    ·rw [if_pos e2] at h1; cases h1
    ·rw [if_neg e2] at h1
     rw [Q4n _ _ e] at h3
     by_cases e':id'=k
     ·exfalso
      rw [e',Q4m] at h4
      rcases (hS b h4).1 with hx | hx
      ·exact hold id e e2 h1 b h3 hx
      ·have:=(h.fb id b h1 h3).2.1; omega
     ·rw [if_neg e'] at h2
      by_cases e3:id' ∈ ds
      ·rw [if_pos e3] at h2; cases h2
      ·rw [if_neg e3] at h2
       rw [Q4n _ _ e'] at h4
       exact h.dj id id' b h1 h2 h3 h4
  fb:=fun id b h1 h3=>by
   change (Q0n (Q4o k o ds) τ.O id).isSome at h1
   rw [hO] at h1
   by_cases e:id=k
   ·subst e
    rw [Q4m] at h3
    obtain ⟨hx,hlt⟩:=hS b h3
    rcases hx with hx | hx
    ·exact ⟨(hXfree b hx).1,hlt,(hXfree b hx).2.2⟩
    ·exact ⟨fun hs=>by have:=(h.shl b hs).1; omega,hlt,.inl (Nat.le_trans h.fr.size hx)⟩
   ·rw [if_neg e] at h1
    by_cases e2:id ∈ ds
    ·rw [if_pos e2] at h1; cases h1
    ·rw [if_neg e2] at h1
     rw [Q4n _ _ e] at h3
     have:=h.fb id b h1 h3
     exact ⟨this.1,Nat.lt_of_lt_of_le this.2.1 hmono,this.2.2⟩
  shl:=fun b hb=>⟨Nat.lt_of_lt_of_le (h.shl b hb).1 hmono,(h.shl b hb).2⟩
  sh0:=h.sh0
  fr:=⟨hw.os.trans h.fr.os,hw.tape.trans h.fr.tape,hw.output.trans h.fr.output,Nat.le_trans h.fr.size hmono,fun b hb hM=>by
   rw [hw.block b (Nat.lt_of_lt_of_le hb h.fr.size) (fun hx=>by
    rcases (hXfree b hx).2.2 with h' | h'
    ·omega
    ·exact hM h')]
   exact h.fr.block b hb hM⟩
  pn:=fun id hz h1=>by
   change (Q0n (Q4o k o ds) τ.O id).isSome at h1
   rw [hO] at h1
   by_cases e:id=k
   ·subst e
    rcases hk with hk | hk
    ·exact absurd (.inl (.inl hz)) hk
    ·rw [Q4m,← hk.1]; exact h.pn id hz hk.2
   ·rw [if_neg e] at h1
    by_cases e2:id ∈ ds
    ·rw [if_pos e2] at h1; cases h1
    ·rw [if_neg e2] at h1
     rw [Q4n _ _ e]; exact h.pn id hz h1 }

theorem Q4s (X:Nat→Prop) (w:World) (o:Obj):Fr X w { w with heap:=w.heap.push o } :=
 ⟨rfl,rfl,rfl,by simp,fun b hb _=>by show (w.heap.push o)[b]?=_; rw [Array.getElem?_push,if_neg (by omega)]⟩
theorem Q4t (w:World) (o:Obj):({ w with heap:=w.heap.push o }:World).heap[w.heap.size]?=some o:=by simp
end

theorem Q4u (τ:Q0d) (T:List (Nat × AV)) (O:List (Nat × Option Q0c)) (new:List Nat):τ.app ⟨T,O,new⟩=⟨Q0n T τ.T,Q0n O τ.O⟩:=rfl

section
variable {P:Program} {c:Ctx} {o:Oper} {σ:Q0d}

def okv:AV→Bool
 | .tup _=>false
 | .undef=>false
 | _=>true
theorem Q4v {w:World} {Sh:Nat→Prop} {β:Nat→Value} {v:Value} {x:AV} (h:Q0i w Sh β v x) (hx:okv x=true):v.cells.size=(cellsOf x).length∧∀ i,i < (cellsOf x).length→Q0i w Sh β (v.cells.getD i undef) (av (cellsOf x) i) :=
 h.cells (fun cs e=>by subst e; simp [okv] at hx) (fun e=>by subst e; simp [okv] at hx)
theorem Q4w {x:AV} {j i:Nat} (h:j ∈ refs (av (cellsOf x) i)):j ∈ refs x:=by
 have h2:=Q0g h
 cases x <;> simp_all [cellsOf,refs,Q0e]

theorem Q4x {t:List Nat} {ob:List Nat} {obs:List Prop} {d k:Nat} {ob':Q0c} {x:AV} {ds:List Nat} (hd:o.dst=some d) (hdn:d < c.nt) (hkx:refs x=[k])
  (hq:(∀ p ∈ obs,p)→∀ τ,(∀ y ∈ t,τ.T y=σ.T y)→(∀ j ∈ ob,τ.O j=σ.O j)→¬ Q0h τ k→τ.O k=none→∀ β fp Sh a w,SR c β fp Sh τ a w →
   ∃ w' v S,(execOp a.eval o).run P w=.ok (.value v) w'∧Fr (Q4q τ fp k ds) w w'∧Q0m w' Sh (upd β k v) S v ob'∧(∀ b,S b→(Q4q τ fp k ds b∨w.heap.size ≤ b)∧b < w'.heap.size)∧Q0i w' Sh (upd β k v) v x) :
  (∀ p ∈ obs,p)→Q2m P c o ⟨t,ob⟩ ⟨[(d,x)],Q4o k ob' ds,[k]⟩ σ:=by
 intro hobs τ hag hfr a w hsr K Q hK
 obtain ⟨β,fp,Sh,hs⟩:=hsr
 obtain ⟨hm,hO⟩:=hfr k (by simp)
 obtain ⟨w',v,S,hrun,hw,ho,hS,hx⟩:=hq hobs τ hag.1 hag.2 hm hO β fp Sh a w hs
 unfold Oper.wp
 rw [hrun]
 show K (a.put o.dst v) w'
 rw [hd]
 have h2:=(hs.reset k ds ob' v S (.inl hm) hw ho hS).put d hdn v x hx
 exact hK _ _ ⟨_,_,Sh,h2⟩

theorem Q4y (z:Value) (i:Nat):z.cells.getD i undef=z.cells.getD i undef:=rfl

def Q4z (TI:Nat→Option Q1r) (nt:Nat) (o:Oper) (t:Nat) (r:Orc):Option Ev :=
 match TI t,r,o.dst with
 | some fi,.new k,some d=>bif Nat.blt d nt && okv fi.zero then some ⟨⟨[],[]⟩,⟨[(d,.ra k 0)],Q4o k (.box (cellsOf fi.zero)) [],[k]⟩,[]⟩ else none
 | _,_,_=>none

theorem Q50 {w:World} {Sh:Nat→Prop} {β:Nat→Value} {v:Value} {x:AV} {k:Nat} (hv:Q0i w Sh β v x) (hx:okv x=true) (hk:k ∉ refs x) (t:TypeId) (hSh:∀ b,Sh b→b < w.heap.size) :
  Q0m { w with heap:=w.heap.push (.cells v.cells t) } Sh (upd β k (.pointer (some ⟨w.heap.size,0,none⟩))) (fun b=>b=w.heap.size) (.pointer (some ⟨w.heap.size,0,none⟩)) (.box (cellsOf x)):=by
 obtain ⟨h1,h2⟩:=Q4v hv hx
 refine ⟨w.heap.size,t,v.cells,rfl,Q4t w _,h1,fun i hi=>(h2 i hi).mono (fun b hb=>?_) (fun _ h=>h) (Q4r (.inl (fun h=>hk (Q4w h)))),rfl⟩
 show (w.heap.push _)[b]?=_
 rw [Array.getElem?_push,if_neg (by have:=hSh b hb; omega)]

theorem Q51 {TI:Nat→Option Q1r} (hTI:Q20 P TI) (t:Nat) (r:Orc) (ho:o.op=.alloc t):Q2o P c o σ (Q4z TI c.nt o t r):=by
 unfold Q4z
 split
 ·rename_i fi k d hfi hd
  refine .ite (fun hb=>?_) (fun _=>.none)
  simp only [Bool.and_eq_true] at hb
  intro ev he
  simp only [Option.some.injEq] at he
  subst he
  refine Q4x (x:=.ra k 0) hd (by simpa [Nat.blt_eq] using hb.1) rfl (fun _ τ _ _ hm hO β fp Sh a w hs=>?_)
  have hz:=Q25 hTI hfi w
  have hzr:Q0i w Sh β (toV fi.zero) fi.zero:=.base _ _ (Q1y w Sh _ (hTI t fi hfi).2.2.1)
  refine ⟨{ w with heap:=w.heap.push (.cells (toV fi.zero).cells t) },.pointer (some ⟨w.heap.size,0,none⟩),fun b=>b=w.heap.size,?_,Q4s _ _ _,Q50 hzr hb.2 ?_ t (fun b hb=>(hs.shl b hb).1),fun b hb=>⟨.inr (by omega),by subst hb; simp⟩,?_⟩
  ·simp only [execOp,ho,Instr.alloc,Sem.run_bind,hz,Result.andThen,newVar,newRow,newObj,Sem.run,pure]
  ·intro hmem
   have:refs fi.zero=[]:=by
    have:=(hTI t fi hfi).2.2.1
    revert this
    cases fi.zero <;> simp [Q1w,Q1v,refs]
    rename_i cs
    intro h
    induction cs with
    | nil=>simp [Q0e]
    | cons y ys ih =>
     simp only [Q0e,List.append_eq_nil_iff]
     refine ⟨?_,ih (fun x hx=>h x (List.mem_cons_of_mem _ hx))⟩
     have:=h y List.mem_cons_self
     cases y <;> simp [Q1v] at this <;> simp [refs]
   rw [this] at hmem; cases hmem
  ·exact .ra k 0 w.heap.size (Q4m _ _ _)
 ·exact .none

def Q52 (TI:Nat→Option Q1r) (nt:Nat) (o:Oper) (σ:Q0d) (t:Nat) (x:Operand) (r:Orc):Option Ev :=
 match r,o.dst with
 | .new k,some d=>bif Nat.blt d nt && okv (opv σ x) then some ⟨⟨opr x,refs (opv σ x)⟩,⟨[(d,.ra k 0)],Q4o k (.box (cellsOf (opv σ x))) [],[k]⟩,[]⟩ else none
 | _,_=>none
theorem Q53 {TI:Nat→Option Q1r} (hTI:Q20 P TI) (t:Nat) (x:Operand) (r:Orc) (ho:o.op=.box t x):Q2o P c o σ (Q52 TI c.nt o σ t x r):=by
 unfold Q52
 split
 ·rename_i k d hd
  refine .ite (fun hb=>?_) (fun _=>.none)
  simp only [Bool.and_eq_true] at hb
  intro ev he
  simp only [Option.some.injEq] at he
  subst he
  refine Q4x (x:=.ra k 0) hd (by simpa [Nat.blt_eq] using hb.1) rfl (fun _ τ ht _ hm hO β fp Sh a w hs=>?_)
  have hv:=hs.opd x
  have hox:=Q2k x ht
  rw [hox] at hv
  refine ⟨{ w with heap:=w.heap.push (.cells (a.eval x).cells t) },.pointer (some ⟨w.heap.size,0,none⟩),fun b=>b=w.heap.size,?_,Q4s _ _ _,Q50 hv hb.2 ?_ t (fun b hb=>(hs.shl b hb).1),fun b hb=>⟨.inr (by omega),by subst hb; simp⟩,?_⟩
  ·simp only [execOp,ho,Instr.box,Sem.run_bind,Result.andThen,newVar,newRow,newObj,Sem.run,pure]
  ·intro hmem
   cases x with
   | tmp y=>exact hm (.inl (.inr ⟨y,by rw [show τ.T y=opv τ (.tmp y) from rfl,hox]; exact hmem⟩))
   | const v =>
    have:refs (Q2g v)=[]:=Q2i v
    change k ∈ refs (Q2g v) at hmem
    rw [this] at hmem; cases hmem
   | global g=>simp [opv,refs] at hmem
   | func f=>simp [opv,refs,Q0e] at hmem
  ·exact .ra k 0 w.heap.size (Q4m _ _ _)
 ·exact .none

def Q54:AV→Bool
 | .agg _ | .tup _ | .undef | .osl _ | .optr _=>false
 | _=>true
theorem Q55 {w:World} {Sh:Nat→Prop} {β:Nat→Value} {v:Value} {x:AV} (h:Q0i w Sh β v x) (hx:Q54 x=true):v.oneCell'=true:=by
 cases x with
 | int k n=>rw [h.int_inv]; rfl
 | bool b=>rw [h.bool_inv]; rfl
 | str s=>rw [h.str_inv]; rfl
 | nils=>rw [h.nils_inv]; rfl
 | nilp=>rw [h.nilp_inv]; rfl
 | sl xs=>have h':=h.sl_inv; cases h' <;> rfl
 | ptr cs off=>obtain ⟨b,o,f,rfl,_⟩:=h.ptr_inv; rfl
 | rs id=>cases h with | base _ _ h=>cases h | rs id h=>exact h
 | ra id off=>obtain ⟨g,_,rfl⟩:=h.ra_inv; rfl
 | ea id sz i off=>obtain ⟨g,n,c,_,rfl⟩:=h.ea_inv; rfl
 | cut id lo=>obtain ⟨g,n,c,o,_,_,_,_,rfl⟩:=h.cut_inv; rfl
 | fn f cs=>obtain ⟨c,rfl,_⟩:=h.fn_inv; rfl
 | fnb f cs=>obtain ⟨c,rfl,_⟩:=h.fnb_inv; rfl
 | nilq xs=>cases h with | base _ _ h=>cases h; rfl
 | raw v=>cases h with | base _ _ h=>cases h; assumption
 | err b=>cases h with | base _ _ h=>cases h with | err b v h=>exact Q01 h
 | _=>simp [Q54] at hx

def Q56 (cs:List AV) (off:Nat) (new:List AV):List AV:=cs.take off ++ new ++ cs.drop (off + new.length)
theorem Q57 (cs new:List AV) (off i:Nat) (h:off + new.length ≤ cs.length):av (Q56 cs off new) i=if off ≤ i∧i < off + new.length then av new (i - off) else av cs i:=by
 unfold Q56
 simp only [av,List.getD_eq_getElem?_getD,List.append_assoc]
 by_cases h1:i < off
 ·rw [List.getElem?_append_left (by simp; omega),List.getElem?_take,if_pos h1,if_neg (by omega)]
 ·rw [List.getElem?_append_right (by simp; omega)]
  have e1:(cs.take off).length=off:=by simp; omega
  rw [e1]
  by_cases h2:i < off + new.length
  ·rw [List.getElem?_append_left (by omega),if_pos (by omega)]
  ·rw [List.getElem?_append_right (by omega),List.getElem?_drop,if_neg (by omega)]
   congr 2
   omega
theorem Q58 (cs new:List AV) (off:Nat) (h:off + new.length ≤ cs.length):(Q56 cs off new).length=cs.length:=by simp [Q56]; omega

def Q59 (c:Array Value) (off:Nat) (vs:List Value):Array Value:=(c.toList.take off ++ vs ++ c.toList.drop (off + vs.length)).toArray
theorem Q5a (c:Array Value) (vs:List Value) (off i:Nat) (h:off + vs.length ≤ c.size):(Q59 c off vs).getD i undef=if off ≤ i∧i < off + vs.length then vs.getD (i - off) undef else c.getD i undef:=by
 unfold Q59
 have hc:c.toList.length=c.size:=by simp
 have e0:∀ (l:List Value),l.toArray.getD i undef=(l[i]?).getD undef:=fun l=>by simp [Array.getD_eq_getD_getElem?]
 rw [e0,List.append_assoc]
 by_cases h1:i < off
 ·rw [List.getElem?_append_left (by simp; omega),List.getElem?_take,if_pos h1,if_neg (by omega)]
  simp [Array.getD_eq_getD_getElem?]
 ·have e1:(c.toList.take off).length=off:=by simp; omega
  rw [List.getElem?_append_right (by omega),e1]
  by_cases h2:i < off + vs.length
  ·rw [List.getElem?_append_left (by omega),if_pos (by omega),List.getD_eq_getElem?_getD]
  ·rw [List.getElem?_append_right (by omega),List.getElem?_drop,if_neg (by omega)]
   have:off + vs.length + (i - off - vs.length)=i:=by omega
   rw [this]
   simp [Array.getD_eq_getD_getElem?]
theorem Q5b (c:Array Value) (vs:List Value) (off:Nat) (h:off + vs.length ≤ c.size):(Q59 c off vs).size=c.size:=by simp [Q59]; omega

theorem Q5c {TI:Nat→Option Q1r} (hTI:Q20 P TI) {t:Nat} {fi:Q1r} (ht:TI t=some fi) {w:World} {g off:Nat} {e:TypeId} {cc:Array Value} {v:Value} (hg:w.heap[g]?=some (.cells cc e (0,0)))
  (hsz:v.cells.size=fi.size) (hfit:off + fi.size ≤ cc.size) (h1:∀ u ∈ v.cells.toList,u.oneCell'=true) :
  ∃ w',(storeVar t ⟨g,off,none⟩ v).run P w=.ok () w'∧w'.heap[g]?=some (.cells (Q59 cc off v.cells.toList) e (0,0))∧(∀ b,b ≠ g→w'.heap[b]?=w.heap[b]?)∧w'.heap.size=w.heap.size∧w'.os=w.os∧w'.tape=w.tape∧w'.output=w.output:=by
 have hs:=Q24 hTI ht w
 have hst:=run_storeCells_at (P:=P) g off e v.cells.toList 0 cc w hg (by simp; omega) h1
 refine ⟨w.setRow g (Q59 cc off v.cells.toList),?_,?_,?_,?_,rfl,rfl,rfl⟩
 ·simp only [storeVar,Sem.run_bind,hs,Result.andThen,hsz,ne_eq,not_true_eq_false,if_false,Sem.run_pure]
  exact hst
 ·exact setRow_heap w g cc _ e _ hg
 ·intro b hb
  simp only [World.setRow,Array.getElem?_modify]
  rw [if_neg (fun h=>hb h.symm)]
 ·simp [World.setRow]

def Q5d (TI:Nat→Option Q1r) (o:Oper) (σ:Q0d) (t:Nat) (x y:Operand):Option Ev :=
 match TI t,opv σ x,o.dst with
 | some fi,.ra id off,none =>
  match σ.O id with
  | some (.box cs) =>
   bif Nat.beq (cellsOf (opv σ y)).length fi.size && Nat.ble (off + fi.size) cs.length && (cellsOf (opv σ y)).all Q54 && okv (opv σ y) then
    some ⟨⟨opr x ++ opr y,id :: (refs (opv σ y) ++ Q0e cs)⟩,⟨[],Q4o id (.box (Q56 cs off (cellsOf (opv σ y)))) [],[]⟩,[]⟩
   else none
  | _=>none
 | _,_,_=>none

theorem Act.put_none (a:Act) (v:Value):a.put none v=a:=rfl

theorem Q5e {TI:Nat→Option Q1r} (hTI:Q20 P TI) (t:Nat) (x y:Operand) (ho:o.op=.store t x y):Q2o P c o σ (Q5d TI o σ t x y):=by
 unfold Q5d
 split
 ·rename_i fi id off hfi hx hd
  split
  ·rename_i cs hO
   refine .ite (fun hb=>?_) (fun _=>.none)
   simp only [Bool.and_eq_true] at hb
   obtain ⟨⟨⟨hlen,hle⟩,hcv⟩,hok⟩:=hb
   have hlen:=Nat.eq_of_beq_eq_true hlen
   have hle:=Nat.le_of_ble_eq_true hle
   intro ev he
   simp only [Option.some.injEq] at he
   subst he
   intro hobs τ hag hfr a w hsr K Q hK
   obtain ⟨β,fp,Sh,hs⟩:=hsr
   have h1:=hs.opd x; rw [Q2k x (fun t h=>hag.1 t (List.mem_append_left _ h)),hx] at h1
   have h2:=hs.opd y; rw [Q2k y (fun t h=>hag.1 t (List.mem_append_right _ h))] at h2
   obtain ⟨g,hg,e1⟩:=h1.ra_inv
   have hO':τ.O id=some (.box cs):=(hag.2 id (by simp)).trans hO
   obtain ⟨g',e,cc,hv,hblk,hsz,hcs,hfp⟩:=hs.ob id _ hO'
   rw [hg] at hv
   simp only [Value.pointer.injEq,Option.some.injEq,Addr.mk.injEq,and_true] at hv
   subst hv
   obtain ⟨c1,c2⟩:=Q4v h2 hok
   have hone:∀ u ∈ (a.eval y).cells.toList,u.oneCell'=true:=by
    intro u hu
    obtain ⟨i,hi,rfl⟩:=List.getElem_of_mem hu
    simp only [Array.length_toList] at hi
    have:=c2 i (by omega)
    have e1:(a.eval y).cells.getD i undef=(a.eval y).cells.toList[i]'(by simpa using hi):=by simp [Array.getD,hi]
    rw [e1] at this
    refine Q55 this ?_
    rw [List.all_eq_true] at hcv
    refine hcv _ ?_
    have hi2:i < (cellsOf (opv σ y)).length:=by omega
    have e2:av (cellsOf (opv σ y)) i=(cellsOf (opv σ y))[i]:=by simp [av,List.getD_eq_getElem?_getD,hi2]
    rw [e2]; exact List.getElem_mem hi2
   obtain ⟨w',hrun,hg',hoth,hsize,hos,htp,hout⟩:=Q5c hTI hfi (w:=w) (g:=g) (off:=off) (v:=a.eval y) hblk (by omega) (by omega) hone
   have hexec:(execOp a.eval o).run P w=.ok .skip w':=by
    simp only [execOp,ho,e1,Instr.storeAt,Instr.sureAddr,Sem.run_bind,Sem.run_pure,Result.andThen,hrun]
   unfold Oper.wp
   rw [hexec]
   show K (a.put o.dst undef) w'
   rw [hd,Act.put_none]
   have hsome:(τ.O id).isSome:=by rw [hO']; rfl
   have hShne:∀ b,Sh b→b ≠ g:=fun b hb e=>(hs.fb id g hsome hfp).1 (e ▸ hb)
   have hlenv:(a.eval y).cells.toList.length=fi.size:=by simp; omega
   have hres:=hs.reset id [] (.box (Q56 cs off (cellsOf (opv σ y)))) (β id) (fp id) (.inr ⟨rfl,hsome⟩) (w':=w')
    ⟨hos,htp,hout,by omega,fun b _ hX=>hoth b (fun e=>hX ⟨id,.inr rfl,hsome,e ▸ hfp⟩)⟩
    ⟨g,e,_,hg,hg',by rw [Q5b _ _ _ (by rw [hlenv]; omega),Q58 _ _ _ (by omega)]; exact hsz,fun i hi=>by
     rw [Q5a _ _ _ _ (by rw [hlenv]; omega),Q57 _ _ _ _ (by omega),hlenv,hlen]
     rw [Q58 _ _ _ (by omega)] at hi
     have hβ:upd β id (β id)=β:=by funext j; unfold upd; split <;> simp_all
     rw [hβ]
     split
     ·rename_i hin
      have:=c2 (i - off) (by omega)
      refine Q0i.mono (w:=w) (β:=β) ?_ (fun b hb=>hoth b (hShne b hb)) (fun _ h=>h) (fun _ _=>rfl)
      have e2:(a.eval y).cells.toList.getD (i - off) undef=(a.eval y).cells.getD (i - off) undef:=by simp [List.getD_eq_getElem?_getD,Array.getD_eq_getD_getElem?]
      rw [e2]; exact this
     ·exact (hcs i hi).mono (fun b hb=>hoth b (hShne b hb)) (fun _ h=>h) (fun _ _=>rfl),hfp⟩
    (fun b hb=>⟨.inl ⟨id,.inr rfl,hsome,hb⟩,by rw [hsize]; exact (hs.fb id b hsome hb).2.1⟩)
   exact hK _ _ ⟨_,_,Sh,hres⟩
  ·exact .none
 ·exact .none

end
end Go.Am
