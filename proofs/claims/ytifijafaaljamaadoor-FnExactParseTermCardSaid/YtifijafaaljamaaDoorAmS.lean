/- From a function's body to what the function is held to. -/
import Derived.Test.YtifijafaaljamaaDoorAmR
set_option linter.unusedSimpArgs false
set_option linter.unusedVariables false
namespace Go.Am
open Go.RowKit

def Qco (args:List AV):List (Nat × AV):=args.zipIdx.map fun p=>(p.2,upa p.1 (1000 * (p.2 + 1)))
def Qcp (args:List AV):List (Nat × Q0c):=args.zipIdx.flatMap fun p=>uoa p.1 (1000 * (p.2 + 1))
def Qcq (args:List AV):Bool:=args.all fun x=>Q86 x && Nat.blt (nla x) 1000

def Qcr (TI:Nat→Option Q1r) (σ:Q0d):ResultVar→Option AV
 | .tmp t=>some (σ.T t)
 | .cell a t =>
  match σ.T a,TI t with
  | .ra id 0,some fi=>match σ.O id with | some (.box cs)=>bif Q43 fi cs 0 then some (Q42 fi cs 0) else none | _=>none
  | _,_=>none
def Qcs (TI:Nat→Option Q1r) (σ:Q0d):List ResultVar→Option (List AV)
 | []=>some []
 | r :: rs=>match Qcr TI σ r,Qcs TI σ rs with | some x,some xs=>some (x :: xs) | _,_=>none

section
variable {P:Program} {c:Ctx} {σ:Q0d} {TI:Nat→Option Q1r}

theorem Qct (hTI:Q20 P TI) {β:Nat→Value} {fp:Nat→Nat→Prop} {Sh:Nat→Prop} {a:Act} {w:World} (hs:SR c β fp Sh σ a w) {r:ResultVar} {x:AV} (h:Qcr TI σ r=some x) :
  ∃ v,(match r with | .tmp t=>(pure (a.tmps.getD t undef):Sem Value) | .cell b t=>do loadVar t (← asAddr (a.tmps.getD b undef))).run P w=.ok v w∧Q0i w Sh β v x:=by
 cases r with
 | tmp t =>
  simp only [Qcr,Option.some.injEq] at h
  subst h
  exact ⟨_,rfl,hs.tm t⟩
 | cell b t =>
  simp only [Qcr] at h
  split at h
  ·rename_i id fi hT hfi
   split at h
   ·rename_i cs hO
    cases hfit:Q43 fi cs 0 with
    | false=>rw [hfit] at h; cases h
    | true =>
     rw [hfit] at h
     simp only [cond_true,Option.some.injEq] at h
     subst h
     have h1:=hs.tm b
     rw [hT] at h1
     obtain ⟨g,hg,e1⟩:=h1.ra_inv
     obtain ⟨g',e,cc,hv,hblk,hsz,hcs,_⟩:=hs.ob id _ hO
     rw [hg] at hv
     simp only [Value.pointer.injEq,Option.some.injEq,Addr.mk.injEq,and_true] at hv
     subst hv
     have hle:0 + fi.size ≤ cs.length:=by simp only [Q43,Bool.and_eq_true,Nat.ble_eq] at hfit; exact hfit.1
     obtain ⟨u,hu,hrep⟩:=Q44 (Sh:=Sh) (β:=β) hTI hfi (w:=w) (b:=g) (o':=0) (f:=fun j=>cc.getD j undef) hfit
      (fun j _ hj=>by rw [Nat.zero_add]; exact Q0a hblk j (by omega)) (fun j _ hj=>hcs j (by omega))
     refine ⟨u,?_,hrep⟩
     simp only [e1,asAddr,Sem.run_bind,Sem.run_pure,Result.andThen]
     exact hu
   ·cases h
  ·cases h

theorem Qcu (hTI:Q20 P TI) {β:Nat→Value} {fp:Nat→Nat→Prop} {Sh:Nat→Prop} {a:Act} {w:World} (hs:SR c β fp Sh σ a w):∀ (rs:List ResultVar) (xs:List AV),Qcs TI σ rs=some xs →
  ∃ vs:List Value,(rs.mapM (m:=Sem) fun | .tmp t=>pure (a.tmps.getD t undef) | .cell b t=>do loadVar t (← asAddr (a.tmps.getD b undef))).run P w=.ok vs w∧vs.length=xs.length∧∀ i,i < xs.length→Q0i w Sh β (vs.getD i undef) (av xs i)
 | [],xs,h=>by
  simp only [Qcs,Option.some.injEq] at h; subst h
  exact ⟨[],by simp [Sem.run_pure],rfl,fun i hi=>by simp at hi⟩
 | r :: rs,xs,h=>by
  simp only [Qcs] at h
  split at h
  ·rename_i x xs' h1 h2
   simp only [Option.some.injEq] at h; subst h
   obtain ⟨v,hv,hr⟩:=Qct hTI hs h1
   obtain ⟨vs,hvs,hl,hrs⟩:=Qcu hTI hs rs xs' h2
   refine ⟨v :: vs,?_,by simp [hl],fun i hi=>?_⟩
   ·simp only [List.mapM_cons,Sem.run_bind,hvs,Result.andThen,Sem.run_pure]
    cases r with
    | tmp t=>simp only at hv ⊢; rw [hv]; simp only [hvs]
    | cell b t=>simp only [Sem.run_bind] at hv ⊢; rw [hv]; simp only [hvs]
   ·cases i with
    | zero=>exact hr
    | succ i=>exact hrs i (by simp at hi; omega)
  ·cases h

def Qcv (fl:List Bool) (σ:Q0d):List AV→AV
 | [r]=>pkv (fl.headD true) σ r
 | rs=>.tup (rs.zipIdx.map fun p=>pkv (fl.getD p.2 true) σ p.1)
def Qcw (rs:List AV):List Nat:=rs.flatMap Q5q

def Qcx (fl:List Bool) (σ:Q0d) (rs:List AV):Option (AV × List Nat) :=
 bif rs.all fun r=>Q5p σ r then some (Qcv fl σ rs,Qcw rs) else
 match rs with
 | [.ra k 0]=>match σ.O k with
  | some (.box cs)=>bif cs.all (Q5n σ) then some (.optr (cs.zipIdx.map fun p=>pk (fl.getD p.2 true) σ p.1),k :: cs.flatMap Q5o) else none
  | _=>none
 | _=>none

def Qcy:List AV→Nat→List (AV × Nat)
 | [],_=>[]
 | x :: xs,k=>(x,k) :: Qcy xs (k + nl x)
theorem Qcz:∀ (cs:List AV) (k:Nat),(Qcy cs k).length=cs.length
 | [],_=>rfl
 | x :: xs,k=>by simp [Qcy,Qcz xs]
theorem Qd0:∀ (cs:List AV) (k i:Nat) (hi:i < (Qcy cs k).length),k ≤ ((Qcy cs k)[i]).2∧av cs i=((Qcy cs k)[i]).1∧av (ups cs k) i=up ((Qcy cs k)[i]).1 ((Qcy cs k)[i]).2
 | x :: xs,k,i,hi=>by
  cases i with
  | zero=>exact ⟨Nat.le_refl _,rfl,rfl⟩
  | succ i =>
   have:=Qd0 xs (k + nl x) i (by simpa [Qcy] using hi)
   exact ⟨by have:=this.1; simp only [Qcy,List.getElem_cons_succ]; omega,this.2.1,this.2.2⟩
def Qd1 (σ:Q0d):AV→Nat→AV
 | .osl _,k=>match σ.O k with | some (.arr xs)=>.osl xs | _=>.undef
 | _,_=>.undef
def Qd2 (σ:Q0d):AV→Nat→List Nat
 | .osl _,k=>match σ.O k with | some (.arr _)=>[k] | _=>[]
 | _,_=>[]

def Qd3 (σ:Q0d):AV→Nat→AV
 | .osl _,k=>match σ.O k with | some (.arr xs)=>.osl xs | _=>.undef
 | .optr ys,k=>match σ.O k with | some (.box cs)=>.optr (pkm σ cs ys) | _=>.undef
 | .agg cs,k=>bif Nat.beq (nls cs) 0 then .undef else .agg ((Qcy cs k).map fun p=>Qd1 σ p.1 p.2)
 | _,_=>.undef
def Qd4 (σ:Q0d):AV→Nat→List Nat
 | .osl _,k=>match σ.O k with | some (.arr xs)=>[k] | _=>[]
 | .optr _,k=>match σ.O k with | some (.box cs)=>k :: cs.flatMap Q5o | _=>[]
 | .agg cs,k=>bif Nat.beq (nls cs) 0 then [] else (Qcy cs k).flatMap fun p=>Qd2 σ p.1 p.2
 | _,_=>[]
def Qd5 (σ:Q0d):AV→Nat→Bool
 | .optr _,k=>match σ.O k with | some (.box cs)=>cs.all (Q5n σ) | _=>true
 | _,_=>true

def Qd6 (σ:Q0d) (args:List AV):List AV:=args.zipIdx.map fun p=>Qd3 σ p.1 (1000 * (p.2 + 1))
def Qd7 (σ:Q0d) (args:List AV):List Nat:=args.zipIdx.flatMap fun p=>Qd4 σ p.1 (1000 * (p.2 + 1))

structure Fin (TI:Nat→Option Q1r) (fn:Func) (args:List AV) (res:AV) (outs:List AV) (σ:Q0d):Prop where
 ret:∃ rs fl ids,Qcs TI σ fn.results.toList=some rs∧Qcx fl σ rs=some (res,ids)∧Q6z (ids ++ Qd7 σ args)=true
 outs:outs=Qd6 σ args∨outs=[]
 ok:(args.zipIdx.all fun p=>Qd5 σ p.1 (1000 * (p.2 + 1)))=true

end

theorem Qd8 {α β:Type} (d:β) (g:α × Nat→β):∀ (l:List α) (n t:Nat),lk d ((l.zipIdx n).map fun p=>(p.2,g p)) t=(if n ≤ t then (match l[t - n]? with | some x=>g (x,t) | none=>d) else d)
 | [],n,t=>by simp [lk]
 | x :: l,n,t=>by
  simp only [List.zipIdx_cons,List.map_cons,lk]
  cases h:Nat.beq t n with
  | true =>
   have:=Nat.eq_of_beq_eq_true h
   subst this
   simp
  | false =>
   have hne:t ≠ n:=fun e=>by subst e; simp at h
   simp only [cond_false]
   rw [Qd8 d g l (n + 1) t]
   by_cases hle:n + 1 ≤ t
   ·rw [if_pos hle,if_pos (by omega:n ≤ t),show t - n=(t - (n + 1)) + 1 by omega]
    simp
   ·rw [if_neg hle,if_neg (by omega)]

section
variable {P:Program} {c:Ctx} {σ:Q0d} {TI:Nat→Option Q1r} {β:Nat→Value} {fp:Nat→Nat→Prop} {Sh:Nat→Prop} {a:Act} {w:World}

theorem Qd9 {α:Type} {l:List α} {g:α→List Nat} (h:(l.flatMap g).Nodup):(∀ x ∈ l,(g x).Nodup)∧∀ i j (hi:i < l.length) (hj:j < l.length) k,k ∈ g l[i]→k ∈ g l[j]→i=j:=by
 induction l with
 | nil=>exact ⟨fun x hx=>(by cases hx),fun i j hi=>(by simp at hi)⟩
 | cons x xs ih =>
  rw [List.flatMap_cons,List.nodup_append] at h
  obtain ⟨h1,h2,h3⟩:=h
  obtain ⟨i1,i2⟩:=ih h2
  refine ⟨fun y hy=>?_,fun i j hi hj k hk hk'=>?_⟩
  ·rcases List.mem_cons.1 hy with rfl | hy
   ·exact h1
   ·exact i1 y hy
  ·cases i with
   | zero =>
    cases j with
    | zero=>rfl
    | succ j=>exact absurd rfl (h3 k hk k (List.mem_flatMap.2 ⟨_,List.getElem_mem (by simpa using hj),hk'⟩))
   | succ i =>
    cases j with
    | zero=>exact absurd rfl (h3 k hk' k (List.mem_flatMap.2 ⟨_,List.getElem_mem (by simpa using hi),hk⟩))
    | succ j=>exact congrArg _ (i2 i j (by simpa using hi) (by simpa using hj) k hk hk')

theorem Qda {l:List AV} {i:Nat} (hi:i < l.length):av l i=l[i]:=by simp [av,List.getD_eq_getElem?_getD,hi]

theorem Qdb (hs:SR c β fp Sh σ a w) {v:Value} {x:AV} (hv:Q0i w Sh β v x) (own:Bool) (hok:Q5p σ x=true) (hnd:(Q5q x).Nodup):Q04 w Sh (fun b=>∃ id ∈ Q5q x,(σ.O id).isSome∧fp id b) v (pkv own σ x):=by
 have single:cellsOf x=[x]→pkv own σ x=pk own σ x→Q04 w Sh (fun b=>∃ id ∈ Q5q x,(σ.O id).isSome∧fp id b) v (pkv own σ x):=fun e1 e2=>by
  have h1:Q5n σ x=true:=by simp only [Q5p,e1,List.all_cons,List.all_nil,Bool.and_true] at hok; exact hok
  have h2:Q5q x=Q5o x:=by simp [Q5q,e1]
  rw [e2,h2]
  exact Q5t hs hv own h1 (fun _ _=>rfl)
 cases x with
 | agg cs =>
  obtain ⟨cc,rfl,hsz,hh⟩:=hv.agg_inv
  have hok':∀ i (hi:i < cs.length),Q5n σ cs[i]=true:=fun i hi=>by
   simp only [Q5p,cellsOf,List.all_eq_true] at hok; exact hok _ (List.getElem_mem hi)
  have hnd':=Qd9 (l:=cs) (g:=Q5o) hnd
  refine .agg _ cc _ (fun i b=>∃ id ∈ Q5o (av cs i),(σ.O id).isSome∧fp id b) (by simp; exact hsz) (fun i hi=>?_) (fun i b hi ⟨id,hid,h⟩=>?_) (fun i j b hi hj ⟨id,hid,h1,h2⟩ ⟨id',hid',h1',h2'⟩=>?_)
  ·have hi':i < cs.length:=by simpa using hi
   rw [Q73 _ hi',Qda hi']
   have:=hh i hi'
   rw [Qda hi'] at this
   exact Q5t hs this own (hok' i hi') (fun _ _=>rfl)
  ·have hi':i < cs.length:=by simpa using hi
   rw [Qda hi'] at hid
   exact ⟨id,List.mem_flatMap.2 ⟨_,List.getElem_mem hi',hid⟩,h⟩
  ·have hi':i < cs.length:=by simpa using hi
   have hj':j < cs.length:=by simpa using hj
   rw [Qda hi'] at hid
   rw [Qda hj'] at hid'
   have:=hs.dj id id' b h1 h1' h2 h2'
   subst this
   exact hnd'.2 i j hi' hj' id hid hid'
 | _=>exact single rfl rfl

theorem Qdc (hs:SR c β fp Sh σ a w) (fl:List Bool) (rs:List AV) (vs:List Value) (hl:vs.length=rs.length) (hr:∀ i,i < rs.length→Q0i w Sh β (vs.getD i undef) (av rs i)) (hok:(rs.all fun r=>Q5p σ r)=true) (hnd:(Qcw rs).Nodup) :
  Q04 w Sh (fun b=>∃ id ∈ Qcw rs,(σ.O id).isSome∧fp id b) (if h:vs.toArray.size=1 then vs.toArray[0] else .tuple vs.toArray) (Qcv fl σ rs):=by
 rw [List.all_eq_true] at hok
 have hnd':=Qd9 (l:=rs) (g:=Q5q) hnd
 match rs,vs with
 | [r],[v] =>
  have h1:=Qdb hs (hr 0 (by simp)) (fl.headD true) (hok r (by simp)) (hnd'.1 r (by simp))
  simp only [List.size_toArray,List.length_cons,List.length_nil,Nat.zero_add,dite_true]
  have:Qcw [r]=Q5q r:=by simp [Qcw]
  rw [this]
  exact h1
 | [],[]=>exact .tup _ _ _ (fun _ _=>False) rfl (fun i hi=>by simp at hi) (fun i b hi=>by simp at hi) (fun i j b hi=>by simp at hi)
 | r :: r' :: rs',v :: v' :: vs' =>
  have hne:¬ (v :: v' :: vs').toArray.size=1:=by simp
  rw [dif_neg hne]
  generalize hrs:r :: r' :: rs'=rs at *
  have hp:Qcv fl σ rs=.tup (rs.zipIdx.map fun p=>pkv (fl.getD p.2 true) σ p.1):=by subst hrs; rfl
  rw [hp]
  generalize v :: v' :: vs'=vs at *
  have hz:(rs.zipIdx.map fun p=>pkv (fl.getD p.2 true) σ p.1).length=rs.length:=by simp
  have hget:∀ i (hi:i < rs.length),av (rs.zipIdx.map fun p=>pkv (fl.getD p.2 true) σ p.1) i=pkv (fl.getD i true) σ rs[i]:=fun i hi=>by
   rw [Qda (by rw [hz]; exact hi)]; simp
  refine .tup _ _ _ (fun i b=>∃ id ∈ Q5q (av rs i),(σ.O id).isSome∧fp id b) (by simp [hl]) (fun i hi=>?_) (fun i b hi ⟨id,hid,h⟩=>?_) (fun i j b hi hj ⟨id,hid,h1,h2⟩ ⟨id',hid',h1',h2'⟩=>?_)
  ·rw [hz] at hi
   have h2:=hr i hi
   rw [hget i hi,Qda hi]
   rw [Qda hi] at h2
   have e:vs.toArray.getD i undef=vs.getD i undef:=by simp [Array.getD_eq_getD_getElem?,List.getD_eq_getElem?_getD]
   rw [e]
   exact Qdb hs h2 _ (hok _ (List.getElem_mem hi)) (hnd'.1 _ (List.getElem_mem hi))
  ·rw [hz] at hi
   rw [Qda hi] at hid
   exact ⟨id,List.mem_flatMap.2 ⟨_,List.getElem_mem hi,hid⟩,h⟩
  ·rw [hz] at hi hj
   rw [Qda hi] at hid
   rw [Qda hj] at hid'
   have:=hs.dj id id' b h1 h1' h2 h2'
   subst this
   exact hnd'.2 i j hi hj id hid hid'
 | [_],[]=>simp at hl
 | [_],_ :: _ :: _=>simp at hl
 | [],_ :: _=>simp at hl
 | _ :: _ :: _,[]=>simp at hl
 | _ :: _ :: _,[_]=>simp at hl

theorem Qdd (hs:SR c β fp Sh σ a w) (fl:List Bool) {v:Value} {k:Nat} {cs:List AV} (hO:σ.O k=some (.box cs)) (hy:Q0i w Sh β v (.ra k 0)) (hok:cs.all (Q5n σ)=true) (hnd:(k :: cs.flatMap Q5o).Nodup) :
  Q04 w Sh (fun b=>∃ id ∈ k :: cs.flatMap Q5o,(σ.O id).isSome∧fp id b) v (.optr (cs.zipIdx.map fun p=>pk (fl.getD p.2 true) σ p.1)):=by
 obtain ⟨g,hg,e1⟩:=Q0i.ra_inv hy
 rw [e1]
 rw [List.all_eq_true] at hok
 obtain ⟨g',e,cc,hv',hblk,hsz,hcs,hfp⟩:=hs.ob k _ hO
 rw [hg] at hv'
 simp only [Value.pointer.injEq,Option.some.injEq,Addr.mk.injEq,and_true] at hv'
 subst hv'
 rw [List.nodup_cons] at hnd
 have hnd':=Qd9 (l:=cs) (g:=Q5o) hnd.2
 refine .optr _ g e cc _ (fun i b=>∃ id ∈ Q5o (av cs i),(σ.O id).isSome∧fp id b) hblk (by simp; exact hsz) (fun i hi=>?_) ⟨k,by simp,by rw [hO]; rfl,hfp⟩ (fun i b hi ⟨id,hid,h1,h2⟩=>?_) (fun i j b hi hj ⟨id,hid,h1,h2⟩ ⟨id',hid',h1',h2'⟩=>?_)
 ·have hi':i < cs.length:=by simpa using hi
  have hget:av (cs.zipIdx.map fun p=>pk (fl.getD p.2 true) σ p.1) i=pk (fl.getD i true) σ cs[i]:=by rw [Qda (by simpa using hi')]; simp
  rw [hget,Qda hi']
  have:=hcs i hi'
  rw [Qda hi'] at this
  exact Q5t hs this _ (hok _ (List.getElem_mem hi')) (fun _ _=>rfl)
 ·have hi':i < cs.length:=by simpa using hi
  rw [Qda hi'] at hid
  have hmem:id ∈ cs.flatMap Q5o:=List.mem_flatMap.2 ⟨_,List.getElem_mem hi',hid⟩
  refine ⟨⟨id,List.mem_cons_of_mem _ hmem,h1,h2⟩,fun e=>?_⟩
  subst e
  have:=hs.dj id k b h1 (by rw [hO]; rfl) h2 hfp
  subst this
  exact hnd.1 hmem
 ·have hi':i < cs.length:=by simpa using hi
  have hj':j < cs.length:=by simpa using hj
  rw [Qda hi'] at hid
  rw [Qda hj'] at hid'
  have:=hs.dj id id' b h1 h1' h2 h2'
  subst this
  exact hnd'.2 i j hi' hj' id hid hid'
theorem Qde (hs:SR c β fp Sh σ a w) (fl:List Bool) (rs:List AV) (vs:List Value) (hl:vs.length=rs.length) (hr:∀ i,i < rs.length→Q0i w Sh β (vs.getD i undef) (av rs i)) {res:AV} {ids:List Nat} (h:Qcx fl σ rs=some (res,ids)) (hnd:ids.Nodup) :
  Q04 w Sh (fun b=>∃ id ∈ ids,(σ.O id).isSome∧fp id b) (if h:vs.toArray.size=1 then vs.toArray[0] else .tuple vs.toArray) res:=by
 unfold Qcx at h
 cases hb:rs.all fun r=>Q5p σ r with
 | true =>
  rw [hb] at h
  simp only [cond_true,Option.some.injEq,Prod.mk.injEq] at h
  obtain ⟨rfl,rfl⟩:=h
  exact Qdc hs fl rs vs hl hr hb hnd
 | false =>
  rw [hb] at h
  simp only [cond_false] at h
  split at h
  ·rename_i k
   split at h
   ·rename_i cs hO
    cases hok:cs.all (Q5n σ) with
    | false=>rw [hok] at h; cases h
    | true =>
     rw [hok] at h
     simp only [cond_true,Option.some.injEq,Prod.mk.injEq] at h
     obtain ⟨rfl,rfl⟩:=h
     match vs,hl,hr with
     | [v],hl,hr =>
      have:=Qdd hs fl hO (hr 0 (by simp)) hok hnd
      simp only [List.size_toArray,List.length_cons,List.length_nil,Nat.zero_add,dite_true]
      exact this
   ·cases h
  ·cases h

theorem Qdf (hs:SR c β fp Sh σ a w) {v:Value} {x:AV} {k:Nat} (hva:∀ cs,x=.agg cs→∃ cc:Array Value,v=.agg cc∧cc.size=cs.length∧∀ i (hi:i < (Qcy cs k).length) ys,((Qcy cs k)[i]).1=.osl ys→(σ.O ((Qcy cs k)[i]).2).isSome→cc.getD i undef=β ((Qcy cs k)[i]).2)
  (hv:upa x k=.rs k∨upa x k=.ra k 0→(σ.O k).isSome→∃ y,Q0i w Sh β v y∧y=upa x k) (hok:Qd5 σ x k=true) (hnd:(Qd4 σ x k).Nodup) :
  Q04 w Sh (fun b=>∃ id ∈ Qd4 σ x k,(σ.O id).isSome∧fp id b) v (Qd3 σ x k):=by
 have no:Qd3 σ x k=.undef→Q04 w Sh (fun b=>∃ id ∈ Qd4 σ x k,(σ.O id).isSome∧fp id b) v (Qd3 σ x k):=fun e=>by rw [e]; exact .val _ _ _ (.undef _)
 cases x with
 | osl ys =>
  cases hO:σ.O k with
  | none=>exact no (by simp [Qd3,hO])
  | some o =>
   cases o with
   | box cs=>exact no (by simp [Qd3,hO])
   | arx _ _ _ _=>exact no (by simp [Qd3,hO])
   | ary _=>exact no (by simp [Qd3,hO])
   | arr xs =>
    obtain ⟨y,hy,e⟩:=hv (.inl rfl) (by rw [hO]; rfl)
    subst e
    rw [hy.rs_inv]
    have:Q04 w Sh (fp k) (β k) (.osl xs):=hs.ob k _ hO
    simp only [Qd3,Qd4,hO]
    exact this.weaken (fun b hb=>⟨k,by simp,by rw [hO]; rfl,hb⟩)
 | optr ys =>
  cases hO:σ.O k with
  | none=>exact no (by simp [Qd3,hO])
  | some o =>
   cases o with
   | arr xs=>exact no (by simp [Qd3,hO])
   | arx _ _ _ _=>exact no (by simp [Qd3,hO])
   | ary _=>exact no (by simp [Qd3,hO])
   | box cs =>
    obtain ⟨y,hy,e⟩:=hv (.inr rfl) (by rw [hO]; rfl)
    subst e
    obtain ⟨g,hg,e1⟩:=Q0i.ra_inv hy
    rw [e1]
    simp only [Qd3,hO]
    simp only [Qd4,hO] at hnd ⊢
    simp only [Qd5,hO,List.all_eq_true] at hok
    obtain ⟨g',e,cc,hv',hblk,hsz,hcs,hfp⟩:=hs.ob k _ hO
    rw [hg] at hv'
    simp only [Value.pointer.injEq,Option.some.injEq,Addr.mk.injEq,and_true] at hv'
    subst hv'
    rw [List.nodup_cons] at hnd
    have hnd':=Qd9 (l:=cs) (g:=Q5o) hnd.2
    refine .optr _ g e cc _ (fun i b=>∃ id ∈ Q5o (av cs i),(σ.O id).isSome∧fp id b) hblk (by rw [Q9m]; exact hsz) (fun i hi=>?_) ⟨k,by simp,by rw [hO]; rfl,hfp⟩ (fun i b hi ⟨id,hid,h1,h2⟩=>?_) (fun i j b hi hj ⟨id,hid,h1,h2⟩ ⟨id',hid',h1',h2'⟩=>?_)
    ·have hi':i < cs.length:=by rw [Q9m] at hi; exact hi
     rw [Q9n _ _ _ _ hi',Qda hi']
     have:=hcs i hi'
     rw [Qda hi'] at this
     exact Qa1 hs _ this (hok _ (List.getElem_mem hi')) (fun _ _=>rfl)
    ·have hi':i < cs.length:=by rw [Q9m] at hi; exact hi
     rw [Qda hi'] at hid
     have hmem:id ∈ cs.flatMap Q5o:=List.mem_flatMap.2 ⟨_,List.getElem_mem hi',hid⟩
     refine ⟨⟨id,List.mem_cons_of_mem _ hmem,h1,h2⟩,fun e=>?_⟩
     subst e
     have:=hs.dj id k b h1 (by rw [hO]; rfl) h2 hfp
     subst this
     exact hnd.1 hmem
    ·have hi':i < cs.length:=by rw [Q9m] at hi; exact hi
     have hj':j < cs.length:=by rw [Q9m] at hj; exact hj
     rw [Qda hi'] at hid
     rw [Qda hj'] at hid'
     have:=hs.dj id id' b h1 h1' h2 h2'
     subst this
     exact hnd'.2 i j hi' hj' id hid hid'
 | agg cs =>
  cases hb:Nat.beq (nls cs) 0 with
  | true=>exact no (by simp [Qd3,hb])
  | false =>
   obtain ⟨cc,rfl,hsz,hcell⟩:=hva cs rfl
   simp only [Qd4,hb,cond_false] at hnd ⊢
   simp only [Qd3,hb,cond_false]
   have hnd':=Qd9 (l:=Qcy cs k) (g:=fun p=>Qd2 σ p.1 p.2) hnd
   have getC:∀ i (hi:i < (Qcy cs k).length),av ((Qcy cs k).map fun p=>Qd1 σ p.1 p.2) i=Qd1 σ ((Qcy cs k)[i]).1 ((Qcy cs k)[i]).2:=fun i hi=>by
    rw [Qda (by simpa using hi)]; simp
   refine .agg _ cc _ (fun i b=>∃ hi:i < (Qcy cs k).length,∃ id ∈ Qd2 σ ((Qcy cs k)[i]).1 ((Qcy cs k)[i]).2,(σ.O id).isSome∧fp id b) (by simp [Qcz]; exact hsz) (fun i hi=>?_) (fun i b hi ⟨hi',id,hid,h⟩=>?_) (fun i j b hi hj ⟨hi',id,hid,h1,h2⟩ ⟨hj',id',hid',h1',h2'⟩=>?_)
   ·have hi':i < (Qcy cs k).length:=by simpa using hi
    rw [getC i hi']
    have hc:=hcell i hi'
    generalize hp:(Qcy cs k)[i]=p at hc ⊢
    obtain ⟨x,q⟩:=p
    cases x with
    | osl ys =>
     simp only at hc
     simp only [Qd1]
     cases hO:σ.O q with
     | none=>exact .val _ _ _ (.undef _)
     | some o =>
      cases o with
      | arr xs =>
       rw [hc ys rfl (by rw [hO]; rfl)]
       have:Q04 w Sh (fp q) (β q) (.osl xs):=hs.ob q _ hO
       exact this.weaken (fun b hb=>⟨hi',q,by rw [hp]; simp [Qd2,hO],by rw [hO]; rfl,hb⟩)
      | box _=>exact .val _ _ _ (.undef _)
      | arx _ _ _ _=>exact .val _ _ _ (.undef _)
      | ary _=>exact .val _ _ _ (.undef _)
    | _=>exact .val _ _ _ (.undef _)
   ·exact ⟨id,List.mem_flatMap.2 ⟨_,List.getElem_mem hi',hid⟩,h⟩
   ·have:=hs.dj id id' b h1 h1' h2 h2'
    subst this
    exact hnd'.2 i j hi' hj' id hid hid'
 | _=>exact no rfl
end

theorem Q0i.rs_pin {w w':World} {Sh Sh':Nat→Prop} {β β':Nat→Value} {v:Value} {k:Nat} (h:Q0i w Sh β v (.rs k)) (e:β' k=β k):Q0i w' Sh' β' v (.rs k):=by
 cases h with
 | base _ _ h=>cases h
 | rs _ h=>rw [← e] at h ⊢; exact .rs _ h
theorem Q0i.ra_pin {w w':World} {Sh Sh':Nat→Prop} {β β':Nat→Value} {v:Value} {k off:Nat} (h:Q0i w Sh β v (.ra k off)) (e:β' k=β k):Q0i w' Sh' β' v (.ra k off):=by
 cases h with
 | base _ _ h=>cases h
 | ra _ _ g h=>exact .ra _ _ g (e.trans h)

theorem Q7a.of_body {P:Program} {TI:Nat→Option Q1r} (hTI:Q20 P TI) {f:FuncId} {fn:Func} {code:Code} {args outs:List AV} {res:AV} (hf:P.funcs[f]?=some fn) (hb:fn.body=some code)
  (hok:Qcq args=true) (hnt:args.length ≤ fn.ntmps)
  (h:∀ c:Ctx,c.nt=fn.ntmps→Wp P c code (fun e σ'=>(e=.ret∨e=.normal)∧Fin TI fn args res outs σ') (mkS (Qco args) (Qcp args))):Q7a P f args res outs:=by
 intro w Sh Ss vs hSh hlen hown hSs hdj
 simp only [Qcq,List.all_eq_true,Bool.and_eq_true] at hok
 have hoki:∀ i,i < args.length→Q86 (av args i)=true∧nla (av args i) < 1000:=fun i hi=>by
  rw [Qda hi]
  have:=hok _ (List.getElem_mem hi)
  exact ⟨this.1,by simpa [Nat.blt_eq] using this.2⟩
 have hch:∀ i,∃ hv F,i < args.length→Q88 w Sh (Ss i) (uoa (av args i) (1000 * (i + 1))) hv F∧∀ β,(∀ p ∈ uoa (av args i) (1000 * (i + 1)),β p.1=hv p.1)→Q0i w Sh β (vs.getD i undef) (upa (av args i) (1000 * (i + 1))):=fun i=>by
  by_cases hi:i < args.length
  ·obtain ⟨hv,F,h⟩:=Q89 (av args i) (1000 * (i + 1)) (hown i hi) (hoki i hi).1
   exact ⟨hv,F,fun _=>h⟩
  ·exact ⟨fun _=>undef,fun _ _=>False,fun h=>absurd h hi⟩
 obtain ⟨hv,hch⟩:=Classical.axiomOfChoice hch
 obtain ⟨F,hch⟩:=Classical.axiomOfChoice hch
 -- where a number belongs
 have idx:∀ i,i < args.length→∀ p ∈ uoa (av args i) (1000 * (i + 1)),p.1 / 1000 - 1=i∧1000 ≤ p.1:=fun i hi p hp=>by
  have:=Q87 (av args i) (hoki i hi).1 _ p hp
  have h2:=(hoki i hi).2
  omega
 have memO:∀ id o,lk none ((Qcp args).map fun p=>(p.1,some p.2)) id=some o→∃ i,i < args.length∧(id,o) ∈ uoa (av args i) (1000 * (i + 1)):=fun id o ho=>by
  rcases Qc6 none ((Qcp args).map fun p=>(p.1,some p.2)) id with h | ⟨p,hp,h1,h2⟩
  ·rw [h] at ho; cases ho
  ·rw [h2] at ho
   obtain ⟨q,hq,rfl⟩:=List.mem_map.1 hp
   simp only [Option.some.injEq] at ho
   subst ho
   simp only at h1
   subst h1
   simp only [Qcp,List.mem_flatMap] at hq
   obtain ⟨⟨x,i⟩,hx,hq⟩:=hq
   have:=List.mem_zipIdx hx
   simp only [Nat.zero_add,Nat.sub_zero] at this
   obtain ⟨_,hi,hx2⟩:=this
   exact ⟨i,by omega,by rw [Qda (by omega),← hx2]; exact hq⟩
 let β:Nat→Value:=fun k=>hv (k / 1000 - 1) k
 let fp:Nat→Nat→Prop:=fun k=>F (k / 1000 - 1) k
 have hβ:∀ i,i < args.length→∀ p ∈ uoa (av args i) (1000 * (i + 1)),β p.1=hv i p.1:=fun i hi p hp=>by show hv (p.1 / 1000 - 1) p.1=_; rw [(idx i hi p hp).1]
 have hfp:∀ i,i < args.length→∀ p ∈ uoa (av args i) (1000 * (i + 1)),fp p.1=F i p.1:=fun i hi p hp=>by show F (p.1 / 1000 - 1) p.1=_; rw [(idx i hi p hp).1]
 let c:Ctx:={ w0:=w,M:=fun b=>∃ i,i < args.length∧Ss i b,Sh0:=Sh,nt:=fn.ntmps,pin:=β,gk:=hSh.g,gm:=fun b hb ⟨i,hi,h⟩=>(hSs i b hi h).1 (hSh.g b hb).1 }
 let a:Act:={ tmps:=vs.toArray ++ Array.replicate (fn.ntmps - vs.toArray.size) undef,defers:=[] }
 have hs:SR c β fp Sh (mkS (Qco args) (Qcp args)) a w:={
  df:=rfl
  sz:=by simp [a,c]; omega
  tm:=fun t=>by
   have e1:(mkS (Qco args) (Qcp args)).T t=(match args[t]? with | some x=>upa x (1000 * (t + 1)) | none=>.undef):=by
    show lk AV.undef (Qco args) t=_
    unfold Qco
    rw [Qd8 AV.undef (fun p=>upa p.1 (1000 * (p.2 + 1))) args 0 t]
    simp only [Nat.zero_le,if_true,Nat.sub_zero]
    cases args[t]? <;> rfl
   rw [e1]
   by_cases ht:t < args.length
   ·rw [List.getElem?_eq_getElem ht]
    have e2:a.tmps.getD t undef=vs.getD t undef:=by
     simp [a,Array.getD_eq_getD_getElem?,List.getD_eq_getElem?_getD,Array.getElem?_append,show t < vs.length by omega]
    rw [e2]
    have:=(hch t ht).2 β (hβ t ht)
    rw [Qda ht] at this
    exact this
   ·rw [List.getElem?_eq_none (by omega)]
    exact .base _ _ (.undef _)
  ob:=fun id o ho=>by
   obtain ⟨i,hi,hm⟩:=memO id o ho
   have:=(hch i hi).1.rep _ hm β (hβ i hi)
   rw [hβ i hi _ hm,hfp i hi _ hm]
   exact this
  dj:=fun id id' b h1 h2 h3 h4=>by
   obtain ⟨o,ho⟩:=Option.isSome_iff_exists.1 h1
   obtain ⟨o',ho'⟩:=Option.isSome_iff_exists.1 h2
   obtain ⟨i,hi,hm⟩:=memO id o ho
   obtain ⟨i',hi',hm'⟩:=memO id' o' ho'
   rw [hfp i hi _ hm] at h3
   rw [hfp i' hi' _ hm'] at h4
   have:=hdj i i' b hi hi' ((hch i hi).1.sub _ hm b h3) ((hch i' hi').1.sub _ hm' b h4)
   subst this
   exact (hch i hi).1.dj _ hm _ hm' b h3 h4
  fb:=fun id b h1 h2=>by
   obtain ⟨o,ho⟩:=Option.isSome_iff_exists.1 h1
   obtain ⟨i,hi,hm⟩:=memO id o ho
   rw [hfp i hi _ hm] at h2
   have h3:=(hch i hi).1.sub _ hm b h2
   have:=hSs i b hi h3
   exact ⟨this.1,this.2,.inr ⟨i,hi,h3⟩⟩
  shl:=fun b hb=>⟨hSh.lt b hb,.inl hb⟩
  sh0:=fun b hb=>hb
  fr:=Fr.refl _ w
  pn:=fun k _ _=>rfl }
 refine calls_of_wp hf hb (wp_mono (h c rfl a w ⟨β,fp,Sh,hs⟩) ?_)
 rintro e a' w' ⟨σ',⟨he,hfin⟩,β',fp',Sh',hs'⟩
 obtain ⟨rs,fl,ids,hret,hres,hnd⟩:=hfin.ret
 have hnd:=Q70 _ hnd
 rw [List.nodup_append] at hnd
 obtain ⟨hnd1,hnd2,hnd3⟩:=hnd
 obtain ⟨us,hrun,hul,hur⟩:=Qcu hTI hs' _ _ hret
 have hrv:(results fn a'.tmps).run P w'=.ok (if h:us.toArray.size=1 then us.toArray[0] else .tuple us.toArray) w':=by
  have gen:∀ (g:ResultVar→Sem Value),(fn.results.toList.mapM g).run P w'=.ok us w'→(do let vs ← fn.results.mapM g; pure (if h:vs.size=1 then vs[0] else .tuple vs):Sem Value).run P w'=.ok (if h:us.toArray.size=1 then us.toArray[0] else .tuple us.toArray) w':=fun g hg=>by
   rw [Array.mapM_eq_mapM_toList]
   rw [show (List.toArray <$> (fn.results.toList.mapM (m:=Sem) g):Sem _)=(fn.results.toList.mapM (m:=Sem) g) >>= fun l=>pure l.toArray from rfl]
   rw [Sem.run_bind,Sem.run_bind,hg]
   rfl
  exact gen _ hrun
 have key:∃ v,(results fn a'.tmps).run P w'=.ok v w'∧∃ (v':Value) (Sh' S':Nat→Prop) (Ss':Nat→Nat→Prop),Ending.returned v=.returned v'∧Fr (fun b=>∃ i,i < args.length∧Ss i b) w w'∧(∀ b,Sh b→Sh' b) ∧
   (∀ b,Sh' b→b < w'.heap.size∧(Sh b∨w.heap.size ≤ b∨∃ i,i < args.length∧Ss i b))∧Q04 w' Sh' S' v' res∧(∀ i,i < args.length→Q04 w' Sh' (Ss' i) (vs.getD i undef) (av outs i)) ∧
   (∀ b,S' b→¬ Sh' b∧b < w'.heap.size∧(w.heap.size ≤ b∨∃ i,i < args.length∧Ss i b)) ∧
   (∀ i b,i < args.length→Ss' i b→¬ Sh' b∧b < w'.heap.size∧(w.heap.size ≤ b∨∃ i,i < args.length∧Ss i b)) ∧
   (∀ i b,i < args.length→S' b→¬ Ss' i b)∧(∀ i i' b,i < args.length→i' < args.length→Ss' i b→Ss' i' b→i=i'):=by
  have hoid:∀ i,i < args.length→∀ id,id ∈ Qd4 σ' (av args i) (1000 * (i + 1))→id ∈ Qd7 σ' args:=fun i hi id hid=>by
   refine List.mem_flatMap.2 ⟨(args[i],i),?_,by rw [Qda hi] at hid; exact hid⟩
   rw [List.mem_iff_getElem]
   exact ⟨i,by simpa using hi,by simp⟩
  have hnd2':=Qd9 (l:=args.zipIdx) (g:=fun p=>Qd4 σ' p.1 (1000 * (p.2 + 1))) hnd2
  refine ⟨_,hrv,_,Sh',(fun b=>∃ id ∈ ids,(σ'.O id).isSome∧fp' id b),(fun i b=>∃ id ∈ Qd4 σ' (av args i) (1000 * (i + 1)),(σ'.O id).isSome∧fp' id b),rfl,hs'.fr,hs'.sh0,hs'.shl,?_,?_,?_,?_,?_,?_⟩
  ·exact Qde hs' fl rs us hul hur hres hnd1
  ·intro i hi
   rcases hfin.outs with ho | ho
   ·have hg:av outs i=Qd3 σ' (av args i) (1000 * (i + 1)):=by
     rw [ho,Qd6,Qda (by simpa using hi),Qda hi]; simp
    rw [hg]
    refine Qdf hs' (fun cs hx=>?_) (fun hx hsome=>?_) ?_ ?_
    ·have h0:=(hch i hi).2 β (hβ i hi)
     rw [hx] at h0
     have h0:Q0i w Sh β (vs.getD i undef) (.agg (ups cs (1000 * (i + 1)))):=h0
     obtain ⟨cc,e1,e2,e3⟩:=h0.agg_inv
     rw [Q7p] at e2 e3
     refine ⟨cc,e1,e2,fun j hj ys hys hsome=>?_⟩
     obtain ⟨q1,q2,q3⟩:=Qd0 cs (1000 * (i + 1)) j hj
     have h1:=e3 j (by rw [Qcz] at hj; exact hj)
     rw [q3,hys] at h1
     have h1:Q0i w Sh β (cc.getD j undef) (.rs ((Qcy cs (1000 * (i + 1)))[j]).2):=h1
     rw [h1.rs_inv]
     exact (hs'.pn _ (by omega) hsome).symm
    ·-- what was Qee Q0n stands where it stood
     have h0:=(hch i hi).2 β (hβ i hi)
     refine ⟨_,?_,rfl⟩
     have hpn:β' (1000 * (i + 1))=β (1000 * (i + 1)):=hs'.pn _ (by omega) hsome
     rcases hx with hx | hx
     ·rw [hx] at h0 ⊢; exact h0.rs_pin hpn
     ·rw [hx] at h0 ⊢; exact h0.ra_pin hpn
    ·have:=hfin.ok
     rw [List.all_eq_true] at this
     have:=this (args[i],i) (by rw [List.mem_iff_getElem]; exact ⟨i,by simpa using hi,by simp⟩)
     rw [Qda hi]; exact this
    ·have:=hnd2'.1 (args[i],i) (by rw [List.mem_iff_getElem]; exact ⟨i,by simpa using hi,by simp⟩)
     rw [Qda hi]; exact this
   ·rw [ho]
    have:av [] i=.undef:=by simp [av]
    rw [this]
    exact .val _ _ _ (.undef _)
  ·rintro b ⟨id,hid,h1,h2⟩
   exact hs'.fb id b h1 h2
  ·rintro i b hi ⟨id,hid,h1,h2⟩
   exact hs'.fb id b h1 h2
  ·rintro i b hi ⟨id,hid,h1,h2⟩ ⟨id',hid',h1',h2'⟩
   have:=hs'.dj id id' b h1 h1' h2 h2'
   subst this
   exact hnd3 id hid id (hoid i hi id hid') rfl
  ·rintro i j b hi hj ⟨id,hid,h1,h2⟩ ⟨id',hid',h1',h2'⟩
   have:=hs'.dj id id' b h1 h1' h2 h2'
   subst this
   refine hnd2'.2 i j (by simpa using hi) (by simpa using hj) id ?_ ?_
   ·rw [Qda hi] at hid; simpa using hid
   ·rw [Qda hj] at hid'; simpa using hid'
 obtain ⟨v,hv1,hv2⟩:=key
 rcases he with rfl | rfl
 ·exact ⟨hs'.df,v,hv1,hv2⟩
 ·exact ⟨hs'.df,v,hv1,hv2⟩

end Go.Am
