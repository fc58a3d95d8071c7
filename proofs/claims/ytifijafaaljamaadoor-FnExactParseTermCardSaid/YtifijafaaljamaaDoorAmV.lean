/- From a law's function to its row: the arguments are read, the call leaves all as it was, the answer is true. -/
import Derived.Test.YtifijafaaljamaaDoorAmU
import Derived.ProofKit
set_option linter.unusedSimpArgs false
set_option linter.unusedVariables false
namespace Go.Am
open Go.RowKit

section
variable {H:Type} {enc:TypeId × Value→H} {P:Program}

theorem Qgl (hl:laidOutB P=true) {W W':World} (hb:Below W.heap.size W W'):∀ (ts:List TypeId) (vs:List Value) (ds:List (DataW H)) (ps:List MemPlace),(∀ t ∈ ts,P.readableRec t=true∧t < P.types.size) →
  DataW.TrodAll enc P W 0 (fun _=>true) true ts vs ds ps→(∀ x ∈ ps,x.block < W.heap.size)→DataW.TrodAll enc P W' 0 (fun b=>decide (b < W.heap.size)) true ts vs ds ps
 | [],[],[],ps,_,h,_=>h
 | t :: ts,v :: vs,d :: ds,ps,ht,h,hp=>by
  obtain ⟨p,q,h1,h2,rfl⟩:=h
  exact ⟨p,q,Below.trod hl (ht t List.mem_cons_self).1 (ht t List.mem_cons_self).2 h1 hb (fun x hx=>hp x (List.mem_append_left _ hx)),
   Qgl hl hb ts vs ds q (fun t ht'=>ht t (List.mem_cons_of_mem _ ht')) h2 (fun x hx=>hp x (List.mem_append_right _ hx)),rfl⟩
 | [],[],_ :: _,_,_,h,_=>h.elim
 | [],_ :: _,_,_,_,h,_=>h.elim
 | _ :: _,[],_,_,_,h,_=>h.elim
 | _ :: _,_ :: _,[],_,_,h,_=>h.elim

theorem Qgm {w:World} {b:Nat} {sp:Nat→Bool} {hd:Bool}:∀ (ts:List TypeId) (vs:List Value) (ds:List (DataW H)) (ps:List MemPlace),DataW.TrodAll enc P w b sp hd ts vs ds ps→vs.length=ts.length∧ds.length=ts.length
 | [],[],[],_,_=>⟨rfl,rfl⟩
 | _ :: ts,_ :: vs,_ :: ds,_,h=>by
  obtain ⟨p,q,_,h2,_⟩:=h
  have:=Qgm ts vs ds q h2
  exact ⟨by simp [this.1],by simp [this.2]⟩
 | [],[],_ :: _,_,h=>h.elim
 | [],_ :: _,_,_,h=>h.elim
 | _ :: _,[],_,_,h=>h.elim
 | _ :: _,_ :: _,[],_,h=>h.elim

theorem Qgn {fn:Func} {s:ChangeSpec} {apart fresh handsOn:Bool} {W W':World} {args:Array Value} {ds gs:List (DataW H)} {before:List MemPlace} {tb:TypeId} (hl:laidOutB P=true)
  (hts:∀ t ∈ fn.params.toList,P.readableRec t=true∧t < P.types.size) (hrt:fn.resultTypes=#[tb]) (hbool:P.underlying tb=some .bool) (hv:s.vars=[])
  (hs:∀ ds:List (DataW H),ds.length=fn.params.size→(s.fn H ds).results=[.lit (.bool true)]∧(s.fn H ds).args=ds∧(s.fn H ds).vars=[])
  (hW:DataW.Whole enc P fn.params.toList s.vars apart W args.toList ds gs before) (hb:Below W.heap.size W W'):s.post enc P fn apart fresh handsOn false W args (.bool true) W':=by
 have hW':=hW
 have hlt:∀ p ∈ before,p.block < W.heap.size:=fun p hp=>hW.lt p hp
 obtain ⟨p,q,h1,h2,rfl,_,_⟩:=hW'
 rw [hv] at h2
 have hg:gs=[]∧q=[]:=by
  cases gs with
  | nil=>exact ⟨rfl,h2⟩
  | cons _ _=>exact h2.elim
 obtain ⟨rfl,rfl⟩:=hg
 have hlen:=(Qgm _ _ _ _ h1).2
 obtain ⟨e1,e2,e3⟩:=hs ds (by rw [hlen]; simp)
 refine ⟨ds,[],p ++ [],[],p,[],hW,?_,?_,?_,?_,fun h=>by cases h⟩
 ·rw [List.append_nil,e1,hrt]
  refine ⟨[],[],⟨1,?_⟩,rfl,rfl⟩
  show DataW.trod enc P W' _ _ _ (0 + 1) tb [.bool true]=_
  simp only [DataW.trod,hbool]
 ·rw [List.append_nil,e2]
  exact Qgl hl hb _ _ _ _ hts h1 (fun x hx=>hlt x (List.mem_append_left _ hx))
 ·rw [List.append_nil,e3,hv]; rfl
 ·exact hb.frame _
end
end Go.Am
