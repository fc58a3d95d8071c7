/- Structs and rows built out of parts; what a value leads to, handed over with it. -/
import Derived.Test.YtifijafaaljamaaDoorAmH
set_option linter.unusedSimpArgs false
set_option linter.unusedVariables false
namespace Go.Am
open Go.RowKit

theorem Q5f (c:Array Value) (i p:Nat) (v:Value) (h:i < c.size):(c.setIfInBounds i v).getD p undef=if p=i then v else c.getD p undef:=by
 simp only [Array.getD_eq_getD_getElem?]
 by_cases e:p=i
 ·subst e; simp [h]
 ·rw [if_neg e,Array.getElem?_setIfInBounds_ne (fun h=>e h.symm)]
theorem Q5g (off:Nat):∀ (l:List Value) (k:Nat) (c:Array Value),off + k + l.length ≤ c.size →
  ((l.zipIdx k).foldl (fun cs (x:Value × Nat)=>cs.setIfInBounds (off + x.2) x.1) c).size=c.size ∧
  ∀ p,((l.zipIdx k).foldl (fun cs (x:Value × Nat)=>cs.setIfInBounds (off + x.2) x.1) c).getD p undef=if off + k ≤ p∧p < off + k + l.length then l.getD (p - (off + k)) undef else c.getD p undef
 | [],k,c,_=>by
  refine ⟨rfl,fun p=>?_⟩
  simp only [List.zipIdx_nil,List.foldl_nil,List.length_nil,Nat.add_zero]
  rw [if_neg (by omega)]
 | v :: l,k,c,h=>by
  simp only [List.length_cons] at h
  have ih:=Q5g off l (k + 1) (c.setIfInBounds (off + k) v) (by simp; omega)
  simp only [List.zipIdx_cons,List.foldl_cons]
  refine ⟨by rw [ih.1]; simp,fun p=>?_⟩
  rw [ih.2 p,Q5f _ _ _ _ (by omega)]
  simp only [List.length_cons]
  by_cases e:p=off + k
  ·subst e
   rw [if_neg (by omega),if_pos rfl,if_pos (by omega),Nat.sub_self]
   rfl
  ·rw [if_neg e]
   by_cases h2:off + (k + 1) ≤ p∧p < off + (k + 1) + l.length
   ·rw [if_pos h2,if_pos (by omega)]
    rw [show p - (off + k)=(p - (off + (k + 1))) + 1 by omega]
    rfl
   ·rw [if_neg h2,if_neg (by omega)]
theorem Q5h (off:Nat) (v:Array Value) (c:Array Value) (h:off + v.size ≤ c.size) :
  (v.zipIdx.foldl (fun cs (x:Value × Nat)=>cs.setIfInBounds (off + x.2) x.1) c).size=c.size ∧
  ∀ p,(v.zipIdx.foldl (fun cs (x:Value × Nat)=>cs.setIfInBounds (off + x.2) x.1) c).getD p undef=if off ≤ p∧p < off + v.size then v.getD (p - off) undef else c.getD p undef:=by
 have:=Q5g off v.toList 0 c (by simpa using h)
 rw [← Array.foldl_toList]
 simp only [Array.toList_zipIdx,Nat.add_zero] at this ⊢
 refine ⟨this.1,fun p=>?_⟩
 rw [this.2 p]
 simp [List.getD_eq_getElem?_getD,Array.getD_eq_getD_getElem?]

section
variable {P:Program} {c:Ctx} {o:Oper} {σ:Q0d}

def Q5i (TI:Nat→Option Q1r) (fs:List (Nat × Nat)):List AV→List (Nat × AV)→Option (List AV)
 | cs,[]=>some cs
 | cs,(i,x) :: rest =>
  match fs[i]? with
  | some (off,ft) =>
   match TI ft with
   | some fi=>bif Nat.beq (cellsOf x).length fi.size && Nat.ble (off + fi.size) cs.length && okv x then Q5i TI fs (Q56 cs off (cellsOf x)) rest else none
   | none=>none
  | none=>none

theorem Q5j {TI:Nat→Option Q1r} (hTI:Q20 P TI) {fs:List (Nat × Nat)} {places:Array (Nat × Nat)} (hpl:∀ (i off ft:Nat) (fi:Q1r),fs[i]?=some (off,ft)→TI ft=some fi→places[i]?=some (off,fi.size))
  {w:World} {Sh:Nat→Prop} {β:Nat→Value}:∀ (ps:List (Nat × Value)) (xs:List (Nat × AV)) (cells:Array Value) (cs out:List AV),ps.map (·.1)=xs.map (·.1) →
   (∀ i,i < ps.length→Q0i w Sh β (ps.getD i default).2 (xs.getD i default).2)→cells.size=cs.length→(∀ i,i < cs.length→Q0i w Sh β (cells.getD i undef) (av cs i))→Q5i TI fs cs xs=some out →
   ∃ res,Instr.fill (places[·]?) cells ps=some res∧res.size=out.length∧∀ i,i < out.length→Q0i w Sh β (res.getD i undef) (av out i)
 | [],[],cells,cs,out,_,_,hs,hc,hb=>by
  simp only [Q5i,Option.some.injEq] at hb; subst hb
  exact ⟨cells,rfl,hs,hc⟩
 | (i,v) :: ps,(i',x) :: xs,cells,cs,out,hk,hv,hs,hc,hb=>by
  simp only [List.map_cons,List.cons.injEq] at hk
  obtain ⟨rfl,hk⟩:=hk
  simp only [Q5i] at hb
  split at hb
  ·rename_i off ft hf
   split at hb
   ·rename_i fi hfi
    cases hcond:(Nat.beq (cellsOf x).length fi.size && Nat.ble (off + fi.size) cs.length && okv x) with
    | false=>simp [hcond] at hb
    | true =>
     simp only [hcond,cond_true] at hb
     simp only [Bool.and_eq_true] at hcond
     obtain ⟨⟨hlen,hle⟩,hok⟩:=hcond
     have hlen:=Nat.eq_of_beq_eq_true hlen
     have hle:=Nat.le_of_ble_eq_true hle
     have hv0:Q0i w Sh β v x:=hv 0 (by simp)
     obtain ⟨c1,c2⟩:=Q4v hv0 hok
     have hput:=Q5h off v.cells cells (by omega)
     have ih:=Q5j hTI hpl ps xs (v.cells.zipIdx.foldl (fun cs (x:Value × Nat)=>cs.setIfInBounds (off + x.2) x.1) cells) (Q56 cs off (cellsOf x)) out hk
      (fun j hj=>by have:=hv (j + 1) (by simp; omega); simpa using this)
      (by rw [hput.1,Q58 _ _ _ (by omega)]; exact hs)
      (fun j hj=>by
       rw [Q58 _ _ _ (by omega)] at hj
       rw [hput.2,Q57 _ _ _ _ (by omega),c1]
       split
       ·exact c2 _ (by omega)
       ·exact hc j hj) hb
     obtain ⟨res,h1,h2⟩:=ih
     refine ⟨res,?_,h2⟩
     simp only [Instr.fill,hpl _ _ _ _ hf hfi]
     rw [if_neg (by
      simp only [ne_eq,Bool.or_eq_true,decide_eq_true_eq,not_or]
      omega)]
     exact h1
   ·cases hb
  ·cases hb

def Q5k (TI:Nat→Option Q1r) (nt:Nat) (o:Oper) (σ:Q0d) (t:Nat) (parts:List (Nat × Operand)):Option Ev :=
 match TI t with
 | some ti =>
  match ti.shp with
  | .struct fs =>
   bif fs.all (fun f=>(TI f.2).isSome) then
    match Q5i TI fs (cellsOf ti.zero) (parts.map fun p=>(p.1,opv σ p.2)) with
    | some cs=>qv nt o (.agg cs) (parts.flatMap fun p=>opr p.2) [] []
    | none=>none
   else none
  | _=>none
 | none=>none

theorem Q5l {TI:Nat→Option Q1r} (hTI:Q20 P TI) (w:World):∀ (l:List Field),(∀ f ∈ l,(TI f.type).isSome) →
  (l.mapM (m:=Sem) fun f=>do pure (f.offset,← sizeOf f.type)).run P w=.ok (l.map fun f=>(f.offset,((TI f.type).map (·.size)).getD 0)) w
 | [],_=>by simp [Sem.run_pure]
 | f :: l,h=>by
  have ih:=Q5l hTI w l (fun g hg=>h g (List.mem_cons_of_mem _ hg))
  have h0:=h f List.mem_cons_self
  cases hf:TI f.type with
  | none=>simp [hf] at h0
  | some fi =>
   have hsz:=Q24 hTI hf w
   simp only [List.mapM_cons,Sem.run_bind,hsz,Result.andThen,Sem.run_pure,ih,List.map_cons,hf,Option.map_some,Option.getD_some]

theorem Q5m {TI:Nat→Option Q1r} (hTI:Q20 P TI) (t:Nat) (parts:Array (Nat × Operand)) (ho:o.op=.build t parts):Q2o P c o σ (Q5k TI c.nt o σ t parts.toList):=by
 unfold Q5k
 split
 ·rename_i ti hti
  split
  ·rename_i fs hshp
   refine .ite (fun hall=>?_) (fun _=>.none)
   split
   ·rename_i cs hb
    refine Q2p fun hobs τ ht _ β fp Sh a w hs=>?_
    obtain ⟨d,hd,h3⟩:=Q26 hTI hti w
    rw [hshp] at h3
    have:∃ fields,d=.struct fields∧fields.toList.map (fun f=>(f.offset,f.type))=fs:=by cases d <;> simp [Q1q] at h3 <;> exact ⟨_,rfl,h3⟩
    obtain ⟨fields,rfl,hfs⟩:=this
    have hz:=Q25 hTI hti w
    obtain ⟨_,_,hsv,hzl⟩:=hTI t ti hti
    have hzr:Q0i w Sh β (toV ti.zero) ti.zero:=.base _ _ (Q1y w Sh _ hsv)
    have hzok:okv ti.zero=true:=by revert hsv; cases ti.zero <;> simp [Q1w,Q1v,okv]
    obtain ⟨z1,z2⟩:=Q4v hzr hzok
    have hmem:∀ f ∈ fields.toList,(TI f.type).isSome:=by
     intro f hf
     rw [List.all_eq_true] at hall
     exact hall (f.offset,f.type) (by rw [← hfs]; exact List.mem_map.2 ⟨f,hf,rfl⟩)
    have hpl:=Q5l hTI w fields.toList hmem
    have hplA:(fields.mapM (m:=Sem) fun f=>do pure (f.offset,← sizeOf f.type)).run P w=.ok (fields.toList.map fun f=>(f.offset,((TI f.type).map (·.size)).getD 0)).toArray w:=by
     rw [Array.mapM_eq_mapM_toList]
     show ((_ <$> _:Sem _)).run P w=_
     rw [show (List.toArray <$> (fields.toList.mapM (m:=Sem) fun f=>do pure (f.offset,← sizeOf f.type)):Sem _)=(fields.toList.mapM (m:=Sem) fun f=>do pure (f.offset,← sizeOf f.type)) >>= fun l=>pure l.toArray from rfl]
     rw [Sem.run_bind,hpl]; rfl
    obtain ⟨res,hres,hr1,hr2⟩:=Q5j (w:=w) (Sh:=Sh) (β:=β) hTI (fs:=fs) (places:=(fields.toList.map fun f=>(f.offset,((TI f.type).map (·.size)).getD 0)).toArray)
     (fun i off ft fi h1 h2=>by
      rw [← hfs] at h1
      simp only [List.getElem?_map] at h1
      cases hf:fields.toList[i]? with
      | none=>simp [hf] at h1
      | some f =>
       simp only [hf,Option.map_some,Option.some.injEq,Prod.mk.injEq] at h1
       obtain ⟨rfl,rfl⟩:=h1
       have hf':fields[i]?=some f:=by simpa using hf
       simp [hf',h2])
     (parts.toList.map fun p=>(p.1,a.eval p.2)) (parts.toList.map fun p=>(p.1,opv σ p.2)) (toV ti.zero).cells (cellsOf ti.zero) cs (by simp)
     (fun i hi=>by
      have hi':i < parts.size:=by simpa using hi
      have e1:(parts.toList.map fun p=>(p.1,a.eval p.2)).getD i default=(parts[i].1,a.eval parts[i].2):=by simp [List.getD_eq_getElem?_getD,hi']
      have e2:(parts.toList.map fun p=>(p.1,opv σ p.2)).getD i default=(parts[i].1,opv σ parts[i].2):=by simp [List.getD_eq_getElem?_getD,hi']
      rw [e1,e2]
      show Q0i w Sh β (a.eval parts[i].2) (opv σ parts[i].2)
      rw [← Q2k parts[i].2 (fun t h=>ht t (List.mem_flatMap.2 ⟨parts[i],by simp,h⟩))]
      exact hs.opd _) z1 z2 hb
    refine ⟨.agg res,?_,.agg res cs hr1 hr2⟩
    have hparts:(parts.map fun (p:Nat × Operand)=>(p.1,a.eval p.2)).toList=parts.toList.map fun p=>(p.1,a.eval p.2):=by simp
    have hrun:(Instr.build t (parts.map fun (p:Nat × Operand)=>(p.1,a.eval p.2))).run P w=.ok (.agg res) w:=by
     simp only [Instr.build,Sem.run_bind,hz,Result.andThen,hd]
     rw [hplA]
     simp only [Result.andThen,hparts]
     rw [hres]; rfl
    simp only [execOp,ho,Sem.run_bind]
    rw [show (Array.map (fun x=>match x with | (i,x)=>(i,a.eval x)) parts)=parts.map fun (p:Nat × Operand)=>(p.1,a.eval p.2) from rfl,hrun]
    rfl
   ·exact .none
  ·exact .none
 ·exact .none

def pk (own:Bool) (σ:Q0d):AV→AV
 | .nils=>bif own then .osl [] else .sl []
 | .rs id=>match σ.O id with | some (.arr xs)=>.osl xs | _=>.undef
 | x=>x
def Q5n (σ:Q0d):AV→Bool
 | .rs id=>match σ.O id with | some (.arr _)=>true | _=>false
 | x=>plain x
def Q5o:AV→List Nat
 | .rs id=>[id]
 | _=>[]
def pkv (own:Bool) (σ:Q0d):AV→AV
 | .agg cs=>.agg (cs.map (pk own σ))
 | x=>pk own σ x
def Q5p (σ:Q0d) (x:AV):Bool:=(cellsOf x).all (Q5n σ)
def Q5q (x:AV):List Nat:=(cellsOf x).flatMap Q5o

theorem Q5r (own:Bool) (σ:Q0d) (x:AV) (h:Q5n σ x=true):cellsOf (pk own σ x)=[pk own σ x]:=by
 cases x <;> simp [Q5n,plain] at h <;> try rfl
 ·cases own <;> rfl
 ·rename_i id
  unfold pk
  split at h
  ·rename_i xs hO; simp only [hO]; rfl
  ·cases h
theorem Q5s (own:Bool) (σ:Q0d) (x:AV) (h:Q5p σ x=true):cellsOf (pkv own σ x)=(cellsOf x).map (pk own σ):=by
 cases x with
 | agg cs=>rfl
 | _ =>
  simp only [Q5p,cellsOf,List.all_cons,List.all_nil,Bool.and_true] at h
  simp only [pkv,cellsOf,List.map_cons,List.map_nil]
  exact Q5r own σ _ h

theorem Q5t {τ:Q0d} {β:Nat→Value} {fp:Nat→Nat→Prop} {Sh:Nat→Prop} {a:Act} {w:World} (hs:SR c β fp Sh τ a w) {v:Value} {x:AV} (hv:Q0i w Sh β v x) (own:Bool) (hok:Q5n σ x=true)
  (hO:∀ id ∈ Q5o x,τ.O id=σ.O id):Q04 w Sh (fun b=>∃ id ∈ Q5o x,(τ.O id).isSome∧fp id b) v (pk own σ x):=by
 have base:∀ y,plain y=true→Q0i w Sh β v y→Q03 w Sh v y:=fun y hy h=>by
  cases h with
  | base _ _ h=>exact h
  | _=>simp [plain] at hy
 cases x with
 | nils =>
  cases own with
  | true=>rw [hv.nils_inv]; exact .osl0 _
  | false=>rw [hv.nils_inv]; exact .val _ _ _ (.sl0 none 0)
 | rs id =>
  cases hσ:σ.O id with
  | none=>simp [Q5n,hσ] at hok
  | some ob =>
   cases ob with
   | box cs=>simp [Q5n,hσ] at hok
   | arx _ _ _ _=>simp [Q5n,hσ] at hok
   | ary _=>simp [Q5n,hσ] at hok
   | arr xs =>
    simp only [pk,hσ]
    have hτ:τ.O id=some (.arr xs):=(hO id (by simp [Q5o])).trans hσ
    rw [hv.rs_inv]
    have hown:Q04 w Sh (fp id) (β id) (.osl xs):=hs.ob id _ hτ
    exact hown.weaken (fun b hb=>⟨id,by simp [Q5o],by rw [hτ]; rfl,hb⟩)
 | int k n=>exact .val _ _ _ (base _ rfl hv)
 | bool b=>exact .val _ _ _ (base _ rfl hv)
 | str s=>exact .val _ _ _ (base _ rfl hv)
 | nilp=>exact .val _ _ _ (base _ rfl hv)
 | sl xs=>exact .val _ _ _ (base _ rfl hv)
 | ptr cs off=>exact .val _ _ _ (base _ rfl hv)
 | _=>simp [Q5n,plain] at hok

end
end Go.Am
