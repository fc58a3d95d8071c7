/- Calls: what a caller's state is behind a call. -/
import Derived.Test.YtifijafaaljamaaDoorAmN
set_option linter.unusedSimpArgs false
set_option linter.unusedVariables false
namespace Go.Am
open Go.RowKit

section
variable {c:Ctx} {β β':Nat→Value} {fp fp':Nat→Nat→Prop} {Sh Sh':Nat→Prop} {τ:Q0d} {a:Act} {w w':World}

def Q7w (τ:Q0d) (fp:Nat→Nat→Prop) (K:Nat→Prop) (b:Nat):Prop:=∃ id,K id∧(τ.O id).isSome∧fp id b

theorem SR.resetG (h:SR c β fp Sh τ a w) (K:Nat→Prop) (O':Nat→Option Q0c) (hO:∀ id,¬ K id→O' id=τ.O id) (hβ:∀ id,¬ K id→β' id=β id∧fp' id=fp id) (hment:∀ id,K id→¬ Q0h τ id∨β' id=β id∧((O' id).isSome→(τ.O id).isSome))
  (hw:Fr (Q7w τ fp K) w w') (hSh:∀ b,Sh b→Sh' b) (hSh':∀ b,Sh' b→b < w'.heap.size∧(Sh b∨w.heap.size ≤ b∨Q7w τ fp K b))
  (hnew:∀ id o,K id→O' id=some o→Q0m w' Sh' β' (fp' id) (β' id) o) (hfb:∀ id b,K id→(O' id).isSome→fp' id b→¬ Sh' b∧b < w'.heap.size∧(Q7w τ fp K b∨w.heap.size ≤ b))
  (hdj:∀ id id' b,K id→K id'→(O' id).isSome→(O' id').isSome→fp' id b→fp' id' b→id=id'):SR c β' fp' Sh' ⟨τ.T,O'⟩ a w':=by
 have hXfree:∀ b,Q7w τ fp K b→¬ Sh b∧b < w.heap.size∧(c.w0.heap.size ≤ b∨c.M b):=fun b ⟨id,_,h1,h2⟩=>h.fb id b h1 h2
 have hShw:∀ b,Sh b→w'.heap[b]?=w.heap[b]?:=fun b hb=>hw.block b (h.shl b hb).1 (fun hx=>(hXfree b hx).1 hb)
 have hold:∀ id,¬ K id→(τ.O id).isSome→∀ b,fp id b→¬ Q7w τ fp K b:=by
  rintro id h1 h3 b hb ⟨id',hid',h4,h5⟩
  have:=h.dj id id' b h3 h4 hb h5
  subst this
  exact h1 hid'
 have hment':∀ id,Q0h τ id→β' id=β id:=fun id hm=>by
  by_cases hk:K id
  ·rcases hment id hk with h' | h'
   ·exact absurd hm h'
   ·exact h'.1
  ·exact (hβ id hk).1
 have hmono:w.heap.size ≤ w'.heap.size:=hw.size
 exact {
  df:=h.df
  sz:=h.sz
  tm:=fun t=>(h.tm t).mono hShw hSh (fun j hj=>hment' j (.inl (.inr ⟨t,hj⟩)))
  ob:=fun id o' ho'=>by
   change O' id=some o' at ho'
   by_cases e:K id
   ·exact hnew id o' e ho'
   ·rw [hO id e] at ho'
    rw [(hβ id e).1,(hβ id e).2]
    have hsome:(τ.O id).isSome:=by rw [ho']; rfl
    exact (h.ob id o' ho').mono hShw (fun b hb=>hw.block b (h.fb id b hsome hb).2.1 (hold id e hsome b hb)) hSh (fun j hj=>hment' j (.inr ⟨id,o',ho',hj⟩))
  dj:=fun id id' b h1 h2 h3 h4=>by
   change (O' id).isSome at h1
   change (O' id').isSome at h2
   by_cases e:K id <;> by_cases e':K id'
   ·exact hdj id id' b e e' h1 h2 h3 h4
   ·exfalso
    rw [hO id' e'] at h2
    rw [(hβ id' e').2] at h4
    rcases (hfb id b e h1 h3).2.2 with hx | hx
    ·exact hold id' e' h2 b h4 hx
    ·have:=(h.fb id' b h2 h4).2.1; omega
   ·exfalso
    rw [hO id e] at h1
    rw [(hβ id e).2] at h3
    rcases (hfb id' b e' h2 h4).2.2 with hx | hx
    ·exact hold id e h1 b h3 hx
    ·have:=(h.fb id b h1 h3).2.1; omega
   ·rw [hO id e] at h1; rw [hO id' e'] at h2
    rw [(hβ id e).2] at h3; rw [(hβ id' e').2] at h4
    exact h.dj id id' b h1 h2 h3 h4
  fb:=fun id b h1 h3=>by
   change (O' id).isSome at h1
   by_cases e:K id
   ·obtain ⟨q1,q2,q3⟩:=hfb id b e h1 h3
    refine ⟨q1,q2,?_⟩
    rcases q3 with hx | hx
    ·exact (hXfree b hx).2.2
    ·exact .inl (Nat.le_trans h.fr.size hx)
   ·rw [hO id e] at h1
    rw [(hβ id e).2] at h3
    have:=h.fb id b h1 h3
    refine ⟨fun hs=>?_,Nat.lt_of_lt_of_le this.2.1 hmono,this.2.2⟩
    rcases (hSh' b hs).2 with hx | hx | hx
    ·exact this.1 hx
    ·omega
    ·exact hold id e h1 b h3 hx
  shl:=fun b hb=>by
   obtain ⟨q1,q2⟩:=hSh' b hb
   refine ⟨q1,?_⟩
   rcases q2 with hx | hx | hx
   ·exact (h.shl b hx).2
   ·exact .inr (.inl (Nat.le_trans h.fr.size hx))
   ·exact .inr (hXfree b hx).2.2
  sh0:=fun b hb=>hSh b (h.sh0 b hb)
  fr:=⟨hw.os.trans h.fr.os,hw.tape.trans h.fr.tape,hw.output.trans h.fr.output,Nat.le_trans h.fr.size hmono,fun b hb hM=>by
   rw [hw.block b (Nat.lt_of_lt_of_le hb h.fr.size) (fun hx=>by
    rcases (hXfree b hx).2.2 with h' | h'
    ·omega
    ·exact hM h')]
   exact h.fr.block b hb hM⟩
  pn:=fun id hz h1=>by
   change (O' id).isSome at h1
   by_cases e:K id
   ·rcases hment id e with h' | h'
    ·exact absurd (.inl (.inl hz)) h'
    ·rw [h'.1]; exact h.pn id hz (h'.2 h1)
   ·rw [hO id e] at h1
    rw [(hβ id e).1]; exact h.pn id hz h1 }
end

def Q7x (l:List (Nat × List AV)):List (Nat × Option Q0c):=l.map fun p=>(p.1,some (.arr p.2))

section
variable {P:Program} {c:Ctx} {o:Oper} {σ:Q0d}

def Q7y (σ:Q0d):Operand→Option (FuncId × List AV × List AV × List Nat)
 | .func f=>some (f,[],[],[])
 | .tmp t=>match σ.T t with | .fn f cs=>some (f,[],cs,[t]) | .fnb f fs=>some (f,fs,[],[t]) | _=>none
 | _=>none

def Q7z (P:Program) (o:Oper) (callee:Operand) (xs:List Operand):Prop:=∃ ts,o.op=.call { callee:=.value callee,args:=xs.toArray,argTypes:=ts }

def Q80 (P:Program) (f:FuncId):Prop:=∃ fn,P.funcs[f]?=some fn∧fn.body.isSome∧fn.name ≠ "runtime.NumGoroutine"

theorem Q81 {callee:Operand} {xs:List Operand} (ho:Q7z P o callee xs) {a:Act} {f:FuncId} {first caps:Array Value} (he:a.eval callee=.func (.func f) first caps) (hb:Q80 P f) (w:World) :
  (execOp a.eval o).run P w=.ok (.enter f (first ++ (xs.map a.eval).toArray ++ caps)) w:=by
 obtain ⟨ts,ho⟩:=ho
 obtain ⟨fn,h1,h2,h3⟩:=hb
 have h3':(fn.name == "runtime.NumGoroutine")=false:=by simpa using h3
 cases hbd:fn.body with
 | none=>simp [hbd] at h2
 | some body =>
  simp [execOp,ho,resolve,he,Deferred.ofValue,Sem.run_bind,Sem.run_pure,Result.andThen,invoke,callFunc,program,Sem.run,h1,h3',h3,hbd,pure]

def Q82 (nt:Nat) (o:Oper) (σ:Q0d) (callee:Operand) (xs:List Operand) (res:AV) (k0:Nat) (P:Program):Option Ev :=
 match Q7y σ callee,o.dst with
 | some (f,fs,caps,ct),some d =>
  let vs:=fs ++ xs.map (opv σ) ++ caps
  bif Nat.blt d nt && vs.all (Q7h σ) && Q7r res then
   some ⟨⟨ct ++ xs.flatMap opr,vs.flatMap (Q7i σ)⟩,⟨[(d,up res k0)],Q7x (uo res k0),(uo res k0).map (·.1)⟩,
    [Q7a P f (vs.map (shv σ)) res [],Q80 P f,vs.flatMap (Q7i σ)=[]∨noSh res=true]⟩
  else none
 | _,_=>none

theorem Q83 (l:List (Nat × List AV)) (O:Nat→Option Q0c) (id:Nat):(id ∉ l.map (·.1)→Q0n (Q7x l) O id=O id)∧(∀ o,id ∈ l.map (·.1)→Q0n (Q7x l) O id=some o→∃ xs,(id,xs) ∈ l∧o=.arr xs):=by
 constructor
 ·intro h
  exact Q0o _ _ _ (by simpa [Q7x,List.map_map] using h)
 ·intro o h ho
  have hm:id ∈ (Q7x l).map (·.1):=by simpa [Q7x,List.map_map] using h
  obtain ⟨v,hv,he⟩:=Q0q (Q7x l) O id hm
  simp only [Q7x,List.mem_map,Prod.mk.injEq] at hv
  obtain ⟨p,hp,rfl,rfl⟩:=hv
  rw [ho] at he
  simp only [Option.some.injEq] at he
  exact ⟨p.2,hp,he⟩

theorem Q84 {τ:Q0d} {β:Nat→Value} {fp:Nat→Nat→Prop} {Sh:Nat→Prop} {a:Act} {w:World} (hs:SR c β fp Sh τ a w) {callee:Operand} {f:FuncId} {fs caps:List AV} {ct:List Nat} (hc:Q7y σ callee=some (f,fs,caps,ct))
  (hag:∀ t ∈ ct,τ.T t=σ.T t):∃ ff cc:Array Value,a.eval callee=.func (.func f) ff cc∧(ff.size=fs.length∧∀ i,i < fs.length→Q0i w Sh β (ff.getD i undef) (av fs i))∧cc.size=caps.length∧∀ i,i < caps.length→Q0i w Sh β (cc.getD i undef) (av caps i):=by
 cases callee <;> simp only [Q7y,reduceCtorEq] at hc
 ·rename_i t
  split at hc
  ·rename_i f' cs hT
   simp only [Option.some.injEq,Prod.mk.injEq] at hc
   obtain ⟨rfl,rfl,rfl,rfl⟩:=hc
   have:=hs.tm t
   rw [hag t (by simp),hT] at this
   obtain ⟨cc,h1,h2,h3⟩:=this.fn_inv
   exact ⟨#[],cc,h1,⟨rfl,fun i hi=>absurd hi (by simp)⟩,h2,h3⟩
  ·rename_i f' cs hT
   simp only [Option.some.injEq,Prod.mk.injEq] at hc
   obtain ⟨rfl,rfl,rfl,rfl⟩:=hc
   have:=hs.tm t
   rw [hag t (by simp),hT] at this
   obtain ⟨cc,h1,h2,h3⟩:=this.fnb_inv
   exact ⟨cc,#[],h1,⟨h2,fun i hi=>.base _ _ (h3 i hi)⟩,rfl,fun i hi=>absurd hi (by simp)⟩
  ·cases hc
 ·simp only [Option.some.injEq,Prod.mk.injEq] at hc
  obtain ⟨rfl,rfl,rfl,rfl⟩:=hc
  exact ⟨#[],#[],rfl,⟨rfl,fun i hi=>absurd hi (by simp)⟩,rfl,fun i hi=>absurd hi (by simp)⟩

theorem Q85 (callee:Operand) (xs:List Operand) (ho:Q7z P o callee xs) (res:AV) (k0:Nat):Q2o P c o σ (Q82 c.nt o σ callee xs res k0 P):=by
 unfold Q82
 split
 ·rename_i f fs caps ct d hcal hd
  refine .ite (fun hb=>?_) (fun _=>.none)
  simp only [Bool.and_eq_true,List.all_eq_true] at hb
  obtain ⟨⟨hdn,hok⟩,hup⟩:=hb
  have hdn:d < c.nt:=by simpa [Nat.blt_eq] using hdn
  intro ev he
  simp only [Option.some.injEq] at he
  subst he
  intro hobs τ hag hfr a w hsr K Q hK
  obtain ⟨β,fp,Sh,hs⟩:=hsr
  have hsound:Q7a P f ((fs ++ xs.map (opv σ) ++ caps).map (shv σ)) res []:=hobs _ List.mem_cons_self
  have hbody:Q80 P f:=hobs _ (List.mem_cons_of_mem _ List.mem_cons_self)
  have hns:(fs ++ xs.map (opv σ) ++ caps).flatMap (Q7i σ)=[]∨noSh res=true:=hobs _ (List.mem_cons_of_mem _ (List.mem_cons_of_mem _ List.mem_cons_self))
  obtain ⟨ff,cc,hce,⟨hfs,hfr'⟩,hcs,hcr⟩:=Q84 hs hcal (fun t ht=>hag.1 t (List.mem_append_left _ ht))
  generalize hvs:fs ++ xs.map (opv σ) ++ caps=vs at *
  have hrep:∀ i,i < vs.length→Q0i w Sh β ((ff.toList ++ xs.map a.eval ++ cc.toList).getD i undef) (av vs i):=by
   intro i hi
   subst hvs
   have hxs:(ff.toList ++ xs.map a.eval).length=(fs ++ xs.map (opv σ)).length:=by simp [hfs]
   by_cases h:i < (fs ++ xs.map (opv σ)).length
   ·rw [Q5z h]
    have e0:(ff.toList ++ xs.map a.eval ++ cc.toList).getD i undef=(ff.toList ++ xs.map a.eval).getD i undef:=by
     rw [List.getD_eq_getElem?_getD,List.getD_eq_getElem?_getD,List.getElem?_append_left (by omega)]
    rw [e0]
    by_cases h':i < fs.length
    ·rw [Q5z h']
     have e1:(ff.toList ++ xs.map a.eval).getD i undef=ff.getD i undef:=by
      rw [List.getD_eq_getElem?_getD,List.getElem?_append_left (by simp; omega)]
      simp [Array.getD_eq_getD_getElem?]
     rw [e1]
     exact hfr' i h'
    ·have hle:fs.length ≤ i:=by omega
     have hx:i - fs.length < xs.length:=by simp at h; omega
     rw [Q60 hle]
     have e1:(ff.toList ++ xs.map a.eval).getD i undef=a.eval xs[i - fs.length]:=by
      rw [List.getD_eq_getElem?_getD,List.getElem?_append_right (by simp; omega)]; simp [hfs,hx]
     have e2:av (xs.map (opv σ)) (i - fs.length)=opv σ xs[i - fs.length]:=by simp [av,List.getD_eq_getElem?_getD,hx]
     rw [e1,e2,← Q2k xs[i - fs.length] (fun t ht=>hag.1 t (List.mem_append_right _ (List.mem_flatMap.2 ⟨_,List.getElem_mem hx,ht⟩)))]
     exact hs.opd _
   ·have hle:(fs ++ xs.map (opv σ)).length ≤ i:=by omega
    rw [Q60 hle]
    have e1:(ff.toList ++ xs.map a.eval ++ cc.toList).getD i undef=cc.getD (i - (fs ++ xs.map (opv σ)).length) undef:=by
     rw [List.getD_eq_getElem?_getD,List.getElem?_append_right (by omega),hxs]
     simp [Array.getD_eq_getD_getElem?]
    rw [e1]
    exact hcr _ (by simp at hi hle ⊢; omega)
  have hlenv:(ff.toList ++ xs.map a.eval ++ cc.toList).length=vs.length:=by subst hvs; simp; omega
  -- the call
  have hLent:∀ b,Q7j τ fp (vs.flatMap (Q7i σ)) b→¬ Sh b∧b < w.heap.size:=fun b ⟨id,_,h1,h2⟩=>⟨(hs.fb id b h1 h2).1,(hs.fb id b h1 h2).2.1⟩
  have hcall:=hsound w (fun b=>Sh b∨Q7j τ fp (vs.flatMap (Q7i σ)) b) (fun _ _=>False) (ff.toList ++ xs.map a.eval ++ cc.toList) ⟨fun b hb=>hb.elim (fun h=>(hs.shl b h).1) (fun h=>(hLent b h).2),hs.shok.g.mono (fun _ _ _=>rfl) (fun _ hb=>.inl hb)⟩ (by rw [hlenv,List.length_map])
   (fun i hi=>by
    rw [List.length_map] at hi
    rw [Q73 _ hi]
    exact .val _ _ _ (Q7m hs (hrep i hi) (hok _ (Q5x hi)) (fun id hid=>hag.2 id (List.mem_flatMap.2 ⟨_,Q5x hi,hid⟩)) _ (fun id hid=>List.mem_flatMap.2 ⟨_,Q5x hi,hid⟩)))
   (fun i b _ h=>h.elim) (fun i i' b _ _ h=>h.elim)
  unfold Oper.wp
  rw [Q81 ho hce hbody]
  show Calls P f (ff ++ (xs.map a.eval).toArray ++ cc) w _
  have harr:ff ++ (xs.map a.eval).toArray ++ cc=(ff.toList ++ xs.map a.eval ++ cc.toList).toArray:=by apply Array.ext'; simp
  rw [harr]
  refine hcall.mono ?_
  rintro e w' ⟨v,Sh',S',Ss',rfl,hfrm,hS1,hS2,hown,_,hSf,_,_,_⟩
  have hfrm':Fr (fun _=>False) w w':=hfrm.mono (fun b _ ⟨_,_,h⟩=>h)
  show K (a.put o.dst v) w'
  rw [hd]
  -- the state behind it: what was lent is owned again,or nothing was lent
  have key:∀ Sh'':Nat→Prop,(∀ b,Sh b→Sh'' b)→(∀ b,Sh'' b→b < w'.heap.size∧(Sh b∨w.heap.size ≤ b))→Q04 w' Sh'' S' v res→(∀ b,S' b→¬ Sh'' b∧b < w'.heap.size∧w.heap.size ≤ b)→K (a.put (some d) v) w':=by
   intro Sh'' q1 q2 q3 q4
   obtain ⟨hv,F,hr,ht⟩:=Q7u res k0 S' v q3 hup
   have hnewk:∀ p ∈ uo res k0,¬ Q0h τ p.1∧τ.O p.1=none:=fun p hp=>hfr p.1 (List.mem_map.2 ⟨p,hp,rfl⟩)
   classical
   have hres:=hs.resetG (w':=w') (Sh':=Sh'') (β':=fun k=>if k ∈ (uo res k0).map (·.1) then hv k else β k) (fp':=fun k=>if k ∈ (uo res k0).map (·.1) then F k else fp k) (fun k=>k ∈ (uo res k0).map (·.1)) (Q0n (Q7x (uo res k0)) τ.O)
    (fun id hid=>(Q83 _ _ id).1 hid) (fun id hid=>⟨if_neg hid,if_neg hid⟩) (fun id hid=>by obtain ⟨p,hp,rfl⟩:=List.mem_map.1 hid; exact .inl (hnewk p hp).1) (hfrm'.mono (fun _ _ h=>h.elim)) q1
    (fun b hb=>⟨(q2 b hb).1,(q2 b hb).2.imp (fun h=>h) (fun h=>.inl h)⟩)
    (fun id o' hid ho'=>by
     obtain ⟨ys,hys,rfl⟩:=(Q83 _ _ id).2 o' hid ho'
     simp only [if_pos hid]
     exact hr.rep _ hys)
    (fun id b hid _ hb=>by
     simp only [if_pos hid] at hb
     obtain ⟨p,hp,rfl⟩:=List.mem_map.1 hid
     have:=q4 b (hr.sub p hp b hb)
     exact ⟨this.1,this.2.1,.inr this.2.2⟩)
    (fun id id' b hid hid' _ _ h1 h2=>by
     simp only [if_pos hid] at h1
     simp only [if_pos hid'] at h2
     obtain ⟨p,hp,rfl⟩:=List.mem_map.1 hid
     obtain ⟨q,hq,rfl⟩:=List.mem_map.1 hid'
     exact hr.dj p hp q hq b h1 h2)
   have:=hres.put d hdn v (up res k0) (ht _ (fun p hp=>by
    show (if p.1 ∈ (uo res k0).map (·.1) then hv p.1 else β p.1)=hv p.1
    rw [if_pos (List.mem_map.2 ⟨p,hp,rfl⟩)]))
   exact hK _ _ ⟨_,_,Sh'',this⟩
  rcases hns with hno | hno
  ·-- nothing was lent
   have hL:∀ b,¬ Q7j τ fp (vs.flatMap (Q7i σ)) b:=fun b ⟨id,hid,_⟩=>by rw [hno] at hid; cases hid
   refine key Sh' (fun b hb=>hS1 b (.inl hb)) (fun b hb=>⟨(hS2 b hb).1,?_⟩) hown (fun b hb=>⟨(hSf b hb).1,(hSf b hb).2.1,?_⟩)
   ·rcases (hS2 b hb).2 with (h | h) | h | ⟨_,_,h⟩
    ·exact .inl h
    ·exact absurd h (hL b)
    ·exact .inr h
    ·exact h.elim
   ·rcases (hSf b hb).2.2 with h | ⟨_,_,h⟩
    ·exact h
    ·exact h.elim
  ·refine key Sh (fun b hb=>hb) (fun b hb=>⟨Nat.lt_of_lt_of_le (hs.shl b hb).1 hfrm'.size,.inl hb⟩) (hown.noSh hno) (fun b hb=>⟨fun h=>(hSf b hb).1 (hS1 b (.inl h)),(hSf b hb).2.1,?_⟩)
   rcases (hSf b hb).2.2 with h | ⟨_,_,h⟩
   ·exact h
   ·exact h.elim
 ·exact .none

end
end Go.Am
