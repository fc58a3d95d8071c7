/- The arguments of a law's call, as abstract values; the row of a law. -/
import Derived.Test.YtifijafaaljamaaDoorAmW
set_option linter.unusedSimpArgs false
set_option linter.unusedVariables false
namespace Go.Am
open Go.RowKit

section
variable {H:Type} {enc:TypeId × Value→H} {P:Program} {TI:Nat→Option Q1r}

theorem Qh7 (hTI:Q20 P TI) {rts:List Nat} (hcl:Qgt TI rts=true) {w:World} {sp:Nat→Bool} {held:Bool} {r:Reach} {b0 t:Nat} {v:Value} {d:DataW H} {ps:List MemPlace} (ht:t ∈ rts)
  (hok:Value.okWide P w r b0 t v) (h:DataW.Trod enc P w 0 sp held t v d ps):∃ n xs,Okc TI n t xs∧Q03 w (fun b=>b < w.heap.size) v (Qgo (Qgq TI t) xs):=by
 obtain ⟨fuel,h⟩:=h
 obtain ⟨xs,h1,h2,h3⟩:=Qh6 hTI hcl fuel t _ _ ht h
 refine ⟨fuel,xs,h1,?_⟩
 have hcl':=hcl
 unfold Qgt at hcl'
 rw [List.all_eq_true] at hcl'
 have hc:=hcl' t ht
 cases hi:TI t with
 | none=>rw [hi] at hc; cases hc
 | some i =>
  rw [hi] at hc
  simp only at hc
  obtain ⟨desc,hu,hs,hco⟩:=Qh5 hTI hi
  have hagg:Qgq TI t=Q27 i.shp:=by unfold Qgq; rw [hi]
  rw [hagg,← hs]
  have key:(∀ c,v ≠ .agg c)→xs.length=1→Q03 w (fun b=>b < w.heap.size) v (av xs 0):=fun hv hx=>by
   have hcv:v.cells=#[v]:=by cases v <;> first | rfl | exact absurd rfl (hv _)
   have:=h3 0 (by omega)
   rw [hcv] at this
   exact this
  cases fuel with
  | zero=>exact h1.elim
  | succ n =>
   have hshp:shp TI t=some (Q1q desc):=by unfold shp; rw [hi,hs]; rfl
   unfold Okc at h1
   rw [hshp] at h1
   unfold Value.okWide at hok
   rw [hu] at hok
   cases desc with
   | bool =>
    obtain ⟨b,rfl⟩:=h1
    refine key (fun c hc=>?_) rfl
    subst hc
    simp only [Cell.okWide,Cell.ok,hu] at hok
   | int k =>
    obtain ⟨m,rfl,_⟩:=h1
    refine key (fun c hc=>?_) rfl
    subst hc
    simp only [Cell.okWide,Cell.ok,hu] at hok
   | string =>
    obtain ⟨m,rfl,_⟩:=h1
    refine key (fun c hc=>?_) rfl
    subst hc
    simp only [Cell.okWide,Cell.ok,hu] at hok
   | slice e =>
    obtain ⟨m,rfl,_⟩:=h1
    refine key (fun c hc=>?_) rfl
    subst hc
    simp only [Cell.okWide,Cell.ok,hu] at hok
   | struct fs =>
    obtain ⟨cs,rfl,hsz,_⟩:=hok
    refine .agg cs xs ?_ (fun j hj=>?_)
    ·have:(Value.agg cs).cells=cs:=rfl
     rw [this] at h2
     simpa using h2
    ·have:=h3 j hj
     have e1:(Value.agg cs).cells=cs:=rfl
     rw [e1] at this
     have e2:cs.toList.getD j undef=cs.getD j undef:=by simp [List.getD_eq_getElem?_getD,Array.getD_eq_getD_getElem?]
     rw [e2] at this
     exact this
   | _=>rw [← hs] at hc; simp [Q1q] at hc

def Qh8 (TI:Nat→Option Q1r):List Nat→List AV→Prop
 | [],xs=>xs=[]
 | t :: ts,xs=>∃ n ys r,xs=Qgo (Qgq TI t) ys :: r∧Okc TI n t ys∧Qh8 TI ts r

theorem Qh9 (hTI:Q20 P TI) {rts:List Nat} (hcl:Qgt TI rts=true) {w:World} {r:Reach} {b0:Nat}:∀ (ts:List Nat) (vs:List Value) (ds:List (DataW H)) (ps:List MemPlace),(∀ t ∈ ts,t ∈ rts) →
  (∀ (j t:Nat) (v:Value),ts[j]?=some t→vs[j]?=some v→Value.okWide P w r b0 t v)→DataW.TrodAll enc P w 0 (fun _=>true) true ts vs ds ps →
  ∃ xs,Qh8 TI ts xs∧vs.length=xs.length∧∀ i,i < xs.length→Q03 w (fun b=>b < w.heap.size) (vs.getD i undef) (av xs i)
 | [],[],[],_,_,_,_=>⟨[],rfl,rfl,fun i hi=>by simp at hi⟩
 | t :: ts,v :: vs,d :: ds,ps,ht,hok,h=>by
  obtain ⟨p,q,h1,h2,rfl⟩:=h
  obtain ⟨n,ys,k1,k2⟩:=Qh7 hTI hcl (ht t List.mem_cons_self) (hok 0 t v rfl rfl) h1
  obtain ⟨xs,k3,k4,k5⟩:=Qh9 hTI hcl ts vs ds q (fun t ht'=>ht t (List.mem_cons_of_mem _ ht')) (fun j t v h1 h2=>hok (j + 1) t v (by simpa using h1) (by simpa using h2)) h2
  refine ⟨Qgo (Qgq TI t) ys :: xs,⟨n,ys,xs,rfl,k1,k3⟩,by simp [k4],fun i hi=>?_⟩
  cases i with
  | zero=>exact k2
  | succ i=>exact k5 i (by simpa using hi)
 | [],[],_ :: _,_,_,_,h=>h.elim
 | [],_ :: _,_,_,_,_,h=>h.elim
 | _ :: _,[],_,_,_,_,h=>h.elim
 | _ :: _,_ :: _,[],_,_,_,h=>h.elim

theorem Qha (hTI:Q20 P TI) {rts:List Nat} (hcl:Qgt TI rts=true) {f:FuncId} {fn:Func} {s:ChangeSpec} {apart fresh handsOn:Bool} {tb:TypeId} (hl:laidOutB P=true)
  (hts:∀ t ∈ fn.params.toList,P.readableRec t=true∧t < P.types.size) (hrt:fn.resultTypes=#[tb]) (hbool:P.underlying tb=some .bool) (hv:s.vars=[])
  (hs:∀ ds:List (DataW H),ds.length=fn.params.size→(s.fn H ds).results=[.lit (.bool true)]∧(s.fn H ds).args=ds∧(s.fn H ds).vars=[]) (hr:∀ t ∈ fn.params.toList,t ∈ rts)
  (hlaw:∀ xs,Qh8 TI fn.params.toList xs→Q7a P f xs (.bool true) []) {W:World} {b0:Nat} {r:Reach} {args:Array Value} {ds gs:List (DataW H)} {before:List MemPlace}
  (hval:∀ (j:Nat) t v,fn.params[j]?=some t→args[j]?=some v→Value.okWide P W r b0 t v) (hW:DataW.Whole enc P fn.params.toList s.vars apart W args.toList ds gs before) (hG:GOK W (fun b=>b < W.heap.size)) :
  Calls P f args W fun e W'=>∃ v,e=.returned v∧s.post enc P fn apart fresh handsOn false W args v W':=by
 have hW':=hW
 obtain ⟨p,q,h1,h2,_,_,_⟩:=hW'
 obtain ⟨xs,k1,k2,k3⟩:=Qh9 hTI hcl fn.params.toList args.toList ds p hr (fun j t v h1 h2=>hval j t v (by simpa using h1) (by simpa using h2)) h1
 have hc:=hlaw xs k1 W (fun b=>b < W.heap.size) (fun _ _=>False) args.toList ⟨fun b hb=>hb,hG⟩ k2 (fun i hi=>.val _ _ _ (k3 i hi)) (fun i b _ h=>h.elim) (fun i i' b _ _ h=>h.elim)
 have e:args.toList.toArray=args:=by simp
 rw [e] at hc
 refine hc.mono ?_
 rintro e W' ⟨v,Sh',S',Ss',rfl,hfr,_,_,hown,_⟩
 have hv1:v=.bool true:=by
  cases hown with
  | val _ _ _ h=>cases h; rfl
 subst hv1
 refine ⟨_,rfl,Qgn hl hts hrt hbool hv hs hW ⟨hfr.os,hfr.tape,hfr.output,hfr.size,fun k hk=>hfr.block k hk (fun ⟨_,_,h⟩=>h)⟩⟩
end
end Go.Am
