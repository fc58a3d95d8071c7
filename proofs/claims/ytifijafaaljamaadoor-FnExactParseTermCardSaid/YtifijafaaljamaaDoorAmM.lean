/- Row literals and stores into elements. -/
import Derived.Test.YtifijafaaljamaaDoorAmL
set_option linter.unusedSimpArgs false
set_option linter.unusedVariables false
namespace Go.Am
open Go.RowKit

theorem Q6v (size:Nat):∀ (vs:List Value) (k:Nat) (cells:Array Value),(∀ v ∈ vs,v.cells.size=size)→(k + vs.length) * size ≤ cells.size →
  ∃ out,Instr.fill (fun i=>some (i * size,size)) cells ((vs.zipIdx k).map fun p=>(p.2,p.1))=some out∧out.size=cells.size ∧
   (∀ i j,k ≤ i→i < k + vs.length→j < size→out.getD (i * size + j) undef=(vs.getD (i - k) undef).cells.getD j undef)∧∀ p,p < k * size→out.getD p undef=cells.getD p undef
 | [],k,cells,_,_=>⟨cells,rfl,rfl,fun i j h1 h2=>by simp at h2; omega,fun _ _=>rfl⟩
 | v :: vs,k,cells,hv,hs=>by
  have h0:v.cells.size=size:=hv v List.mem_cons_self
  have hlen:(k + 1) * size ≤ cells.size:=Nat.le_trans (Nat.mul_le_mul_right _ (by simp)) hs
  rw [Nat.add_mul,Nat.one_mul] at hlen
  have hput:=Q5h (k * size) v.cells cells (by omega)
  obtain ⟨out,h1,h2,h3,h4⟩:=Q6v size vs (k + 1) (v.cells.zipIdx.foldl (fun cs (x:Value × Nat)=>cs.setIfInBounds (k * size + x.2) x.1) cells) (fun u hu=>hv u (List.mem_cons_of_mem _ hu))
   (by rw [hput.1,show k + 1 + vs.length=k + (v :: vs).length by simp; omega]; exact hs)
  refine ⟨out,?_,by rw [h2,hput.1],fun i j hi1 hi2 hj=>?_,fun p hp=>?_⟩
  ·simp only [List.zipIdx_cons,List.map_cons,Instr.fill]
   rw [if_neg (by simp only [ne_eq,Bool.or_eq_true,decide_eq_true_eq,not_or]; omega)]
   exact h1
  ·by_cases e:i=k
   ·subst e
    have hlt:i * size + j < (i + 1) * size:=by rw [Nat.add_mul,Nat.one_mul]; omega
    rw [h4 _ hlt,hput.2,if_pos (by omega),Nat.add_sub_cancel_left,Nat.sub_self]
    rfl
   ·rw [h3 i j (by omega) (by simp at hi2; omega) hj]
    rw [show i - k=(i - (k + 1)) + 1 by omega]
    rfl
  ·rw [h4 p (by rw [Nat.add_mul]; omega),hput.2,if_neg (by omega)]

theorem Q6w {α:Type}:∀ (l:List (Nat × α)) (k n:Nat),l.map (·.1)=List.range' k n→l=((l.map (·.2)).zipIdx k).map fun p=>(p.2,p.1)
 | [],_,_,_=>rfl
 | (i,x) :: l,k,n,h=>by
  cases n with
  | zero=>simp at h
  | succ n =>
   simp only [List.map_cons,List.range'_succ,List.cons.injEq] at h
   obtain ⟨rfl,h⟩:=h
   simp only [List.map_cons,List.zipIdx_cons]
   rw [← Q6w l (i + 1) n h]

theorem Q6x {α:Type} (f:α→List Nat):∀ (l:List α),(l.flatMap f).Nodup→∀ (i i':Nat) (x:Nat) (a a':α),l[i]?=some a→l[i']?=some a'→x ∈ f a→x ∈ f a'→i=i'
 | [],_,i,i',x,a,a',h,_,_,_=>by simp at h
 | b :: l,hd,i,i',x,a,a',h,h',hx,hx'=>by
  simp only [List.flatMap_cons] at hd
  rw [List.nodup_append] at hd
  obtain ⟨_,hd2,hd3⟩:=hd
  have far:∀ (j:Nat) (q:α),l[j]?=some q→x ∈ f q→x ∈ l.flatMap f:=fun j q hq hxq=>List.mem_flatMap.2 ⟨q,List.mem_of_getElem? hq,hxq⟩
  cases i with
  | zero =>
   simp only [List.getElem?_cons_zero,Option.some.injEq] at h; subst h
   cases i' with
   | zero=>rfl
   | succ j=>exact absurd rfl (hd3 x hx x (far j a' (by simpa using h') hx'))
  | succ i =>
   cases i' with
   | zero =>
    simp only [List.getElem?_cons_zero,Option.some.injEq] at h'; subst h'
    exact absurd rfl (hd3 x hx' x (far i a (by simpa using h) hx))
   | succ j=>rw [Q6x f l hd2 i j x a a' (by simpa using h) (by simpa using h') hx hx']
theorem Q6y {α:Type} (f:α→List Nat):∀ (l:List α),(l.flatMap f).Nodup→∀ a ∈ l,(f a).Nodup
 | [],_,a,h=>by cases h
 | b :: l,hd,a,h=>by
  simp only [List.flatMap_cons] at hd
  rw [List.nodup_append] at hd
  rcases List.mem_cons.1 h with rfl | h
  ·exact hd.1
  ·exact Q6y f l hd.2.1 a h

def Q6z:List Nat→Bool
 | []=>true
 | x :: xs=>!xs.contains x && Q6z xs
theorem Q70:∀ (l:List Nat),Q6z l=true→l.Nodup
 | [],_=>List.nodup_nil
 | x :: xs,h=>by
  simp only [Q6z,Bool.and_eq_true,Bool.not_eq_true'] at h
  rw [List.nodup_cons]
  refine ⟨fun hm=>?_,Q70 xs h.2⟩
  rw [List.contains_iff_mem.2 hm] at h
  exact absurd h.1 (by decide)

section
variable {P:Program} {c:Ctx} {o:Oper} {σ:Q0d}

theorem Q71 {x:AV} (h:Q5p σ x=true):okv x=true:=by
 cases x <;> simp [Q5p,cellsOf,Q5n,plain] at h <;> rfl
theorem Q72 {x:AV} (h:Q5p σ x=true) {j:Nat} (hj:j < (cellsOf x).length):Q5n σ (av (cellsOf x) j)=true:=by
 simp only [Q5p,List.all_eq_true] at h
 exact h _ (Q5x hj)
theorem getElem?_av {l:List AV} {j:Nat} (hj:j < l.length):l[j]?=some (av l j):=by
 simp [av,List.getD_eq_getElem?_getD,hj]
theorem Q73 (f:AV→AV) {l:List AV} {j:Nat} (hj:j < l.length):av (l.map f) j=f (av l j):=by
 simp [av,List.getD_eq_getElem?_getD,hj]

theorem Q74 {τ:Q0d} {β:Nat→Value} {fp:Nat→Nat→Prop} {Sh:Nat→Prop} {a:Act} {w:World} (hs:SR c β fp Sh τ a w) {v:Value} {x:AV} (hv:Q0i w Sh β v x) (own:Bool) (hok:Q5p σ x=true)
  (hO:∀ id ∈ Q5q x,τ.O id=σ.O id):v.cells.size=(cellsOf x).length∧(cellsOf (pkv own σ x)).length=(cellsOf x).length ∧
   ∀ j,j < (cellsOf x).length→Q04 w Sh (fun b=>∃ id ∈ Q5o (av (cellsOf x) j),(τ.O id).isSome∧fp id b) (v.cells.getD j undef) (av (cellsOf (pkv own σ x)) j):=by
 obtain ⟨h1,h2⟩:=Q4v hv (Q71 hok)
 refine ⟨h1,by rw [Q5s own σ x hok,List.length_map],fun j hj=>?_⟩
 rw [Q5s own σ x hok,Q73 _ hj]
 exact Q5t hs (h2 j hj) own (Q72 hok hj) (fun id hid=>hO id (List.mem_flatMap.2 ⟨_,Q5x hj,hid⟩))

def Q75 (TI:Nat→Option Q1r) (nt:Nat) (o:Oper) (σ:Q0d) (t len:Nat) (parts:List (Nat × Operand)) (k:Nat) (own:Bool):Option Ev :=
 match shp TI t,o.dst with
 | some (.slice e),some d =>
  match TI e with
  | some ei =>
   bif Nat.blt d nt && (parts.map (·.1) == List.range len) && Nat.ble (len * ei.size) 16777216 && Nat.ble 1 ei.size && (parts.all fun p=>Q5p σ (opv σ p.2) && Nat.beq (cellsOf (opv σ p.2)).length ei.size) &&
     Q6z (parts.flatMap fun p=>Q5q (opv σ p.2)) then
    some ⟨⟨parts.flatMap fun p=>opr p.2,parts.flatMap fun p=>Q5q (opv σ p.2)⟩,⟨[(d,.rs k)],Q4o k (.arr (parts.map fun p=>pkv own σ (opv σ p.2))) (parts.flatMap fun p=>Q5q (opv σ p.2)),[k]⟩,[]⟩
   else none
  | none=>none
 | _,_=>none

theorem Q76 {TI:Nat→Option Q1r} (hTI:Q20 P TI) (t len:Nat) (parts:Array (Nat × Operand)) (k:Nat) (own:Bool) (ho:o.op=.buildSlice t len parts):Q2o P c o σ (Q75 TI c.nt o σ t len parts.toList k own):=by
 unfold Q75
 split
 ·rename_i e d hsh hd
  split
  ·rename_i ei hei
   refine .ite (fun hb=>?_) (fun _=>.none)
   simp only [Bool.and_eq_true] at hb
   obtain ⟨⟨⟨⟨⟨hdn,hrange⟩,hle⟩,hs1⟩,hall⟩,hnd⟩:=hb
   have hle:=Nat.le_of_ble_eq_true hle
   have hs1:=Nat.le_of_ble_eq_true hs1
   have hrange:=eq_of_beq hrange
   rw [List.all_eq_true] at hall
   have hnd:=Q70 _ hnd
   intro ev he
   simp only [Option.some.injEq] at he
   subst he
   refine Q4x (x:=.rs k) hd (by simpa [Nat.blt_eq] using hdn) rfl (fun hobs τ ht hO hm hOk β fp Sh a w hs=>?_)
   have hsz:=Q24 hTI hei w
   have hzr:=Q25 hTI hei w
   obtain ⟨ti,hti,hshp⟩:=Q2l hsh
   obtain ⟨dd,hdd,h3⟩:=Q26 hTI hti w
   rw [hshp] at h3
   have:dd=.slice e:=by cases dd <;> simp [Q1q] at h3 <;> simp [h3]
   subst this
   have hlenp:parts.toList.length=len:=by have:=congrArg List.length hrange; simpa using this
   have hpart:∀ i (hi:i < len),parts.toList[i]?=some (parts.toList[i]'(by omega)):=fun i hi=>List.getElem?_eq_getElem _
   have hrep:∀ p ∈ parts.toList,(a.eval p.2).cells.size=ei.size∧(cellsOf (pkv own σ (opv σ p.2))).length=ei.size ∧
     ∀ j,j < ei.size→Q04 w Sh (fun b=>∃ id ∈ Q5o (av (cellsOf (opv σ p.2)) j),(τ.O id).isSome∧fp id b) ((a.eval p.2).cells.getD j undef) (av (cellsOf (pkv own σ (opv σ p.2))) j):=by
    intro p hp
    have hp2:=hall p hp
    simp only [Bool.and_eq_true] at hp2
    have hl:=Nat.eq_of_beq_eq_true hp2.2
    have hv:=hs.opd p.2
    rw [Q2k p.2 (fun t h=>ht t (List.mem_flatMap.2 ⟨p,hp,h⟩))] at hv
    have:=Q74 hs hv own hp2.1 (fun id hid=>hO id (List.mem_flatMap.2 ⟨p,hp,hid⟩))
    rwa [hl] at this
   obtain ⟨out,hf1,hf2,hf3,_⟩:=Q6v ei.size (parts.toList.map fun p=>a.eval p.2) 0 ((Array.range (len * ei.size)).map (fun p=>(if len * ei.size=0 then (#[]:Array Value) else (toV ei.zero).cells)[p % (if len * ei.size=0 then (#[]:Array Value) else (toV ei.zero).cells).size]!))
    (fun v hv=>by obtain ⟨p,hp,rfl⟩:=List.mem_map.1 hv; exact (hrep p hp).1) (by rw [Nat.zero_add,List.length_map,hlenp]; simp)
   have hparts:(parts.map fun (p:Nat × Operand)=>(p.1,a.eval p.2)).toList=(((parts.toList.map fun p=>a.eval p.2).zipIdx 0).map fun p=>(p.2,p.1)):=by
    have:=Q6w (parts.toList.map fun p=>(p.1,a.eval p.2)) 0 len (by rw [List.map_map]; rw [← List.range_eq_range',← hrange]; rfl)
    rw [Array.toList_map,this,List.map_map]
    rfl
   have hrun:(Instr.buildSlice t len (parts.map fun (p:Nat × Operand)=>(p.1,a.eval p.2))).run P w=.ok (.slice (some ⟨w.heap.size,0,none⟩) len len) { w with heap:=w.heap.push (.cells out e) }:=by
    have c1:¬ (len * ei.size > 2 ^ 24):=by omega
    simp only [Instr.buildSlice,Sem.run_bind,hdd,Result.andThen,hsz,if_neg c1,Sem.run_pure]
    by_cases h0:len * ei.size=0
    ·simp only [h0,if_true,Sem.run_bind,Sem.run_pure,Result.andThen] at hf1 ⊢
     rw [hparts,hf1]
     simp only [Sem.run_bind,newRow,newObj,Sem.run,Result.andThen,pure]
    ·simp only [h0,if_false,Sem.run_bind,Sem.run_pure,Result.andThen,hzr] at hf1 ⊢
     rw [hparts,hf1]
     simp only [Sem.run_bind,newRow,newObj,Sem.run,Result.andThen,pure]
   refine ⟨{ w with heap:=w.heap.push (.cells out e) },.slice (some ⟨w.heap.size,0,none⟩) len len,
    fun b=>b=w.heap.size∨∃ id ∈ parts.toList.flatMap (fun p=>Q5q (opv σ p.2)),(τ.O id).isSome∧fp id b,?_,Q4s _ w _,?_,fun b hb=>?_,?_⟩
   ·simp only [execOp,ho,Sem.run_bind]
    rw [show (Array.map (fun x=>match x with | (i,x)=>(i,a.eval x)) parts)=parts.map fun (p:Nat × Operand)=>(p.1,a.eval p.2) from rfl,hrun]
    rfl
   ·have hShw:∀ b,Sh b→({ w with heap:=w.heap.push (.cells out e) }:World).heap[b]?=w.heap[b]?:=fun b hb=>(Q4s (fun _=>False) w (.cells out e)).block b (hs.shl b hb).1 id
    have hxlen:(parts.toList.map fun p=>pkv own σ (opv σ p.2)).length=len:=by simp [hlenp]
    have hxav:∀ i (hi:i < len),av (parts.toList.map fun p=>pkv own σ (opv σ p.2)) i=pkv own σ (opv σ (parts.toList[i]'(by omega)).2):=by
     intro i hi
     simp [av,List.getD_eq_getElem?_getD,show i < parts.size by simpa using (by omega:i < parts.toList.length)]
    have:=Q04.osl (w:={ w with heap:=w.heap.push (.cells out e) }) (Sh:=Sh) (fun b=>b=w.heap.size∨∃ id ∈ parts.toList.flatMap (fun p=>Q5q (opv σ p.2)),(τ.O id).isSome∧fp id b) w.heap.size len ei.size e out
     (parts.toList.map fun p=>pkv own σ (opv σ p.2)) (fun i j b=>∃ p,parts.toList[i]?=some p∧∃ id ∈ Q5o (av (cellsOf (opv σ p.2)) j),(τ.O id).isSome∧fp id b) (Q4t w _) (by omega) (by omega)
     (by simp only [maxLen]; have:=Nat.le_mul_of_pos_right len hs1; omega) (by rw [hf2]; simp)
     (fun i hi=>by rw [hxlen] at hi; rw [hxav i hi]; exact (hrep _ (List.getElem_mem _)).2.1)
     (fun i j hi hj=>by
      rw [hxlen] at hi
      rw [hxav i hi] at hj ⊢
      obtain ⟨r1,r2,r3⟩:=hrep (parts.toList[i]'(by omega)) (List.getElem_mem _)
      rw [r2] at hj
      rw [hf3 i j (by omega) (by rw [Nat.zero_add,List.length_map]; omega) hj,Nat.sub_zero]
      have e1:(parts.toList.map fun p=>a.eval p.2).getD i undef=a.eval (parts.toList[i]'(by omega)).2:=by
       simp [List.getD_eq_getElem?_getD,show i < parts.size by simpa using (by omega:i < parts.toList.length)]
      rw [e1]
      exact (r3 j hj).mono hShw (fun b ⟨id,_,h1,h2⟩=>(Q4s (fun _=>False) w (.cells out e)).block b (hs.fb id b h1 h2).2.1 (fun h=>h)) (fun _ h=>h) (fun b h=>⟨_,hpart i hi,h⟩))
     (.inl rfl)
     (fun i j b hi hj ⟨p,hp,id,hid,h1,h2⟩=>by
      have hpm:=List.mem_of_getElem? hp
      have hjl:j < (cellsOf (opv σ p.2)).length:=by
       have:=hall p hpm; simp only [Bool.and_eq_true] at this; rw [Nat.eq_of_beq_eq_true this.2]; exact hj
      refine ⟨.inr ⟨id,List.mem_flatMap.2 ⟨p,hpm,List.mem_flatMap.2 ⟨_,Q5x hjl,hid⟩⟩,h1,h2⟩,?_⟩
      have:=(hs.fb id b h1 h2).2.1; omega)
     (fun i j i' j' b hi hj hi' hj' ⟨p,hp,id,hid,h1,h2⟩ ⟨p',hp',id',hid',h1',h2'⟩=>by
      have hidid:=hs.dj id id' b h1 h1' h2 h2'
      subst hidid
      have len1:∀ q ∈ parts.toList,(cellsOf (opv σ q.2)).length=ei.size:=fun q hq=>by
       have:=hall q hq; simp only [Bool.and_eq_true] at this; exact Nat.eq_of_beq_eq_true this.2
      have hpm:=List.mem_of_getElem? hp
      have hpm':=List.mem_of_getElem? hp'
      have hjl:j < (cellsOf (opv σ p.2)).length:=by rw [len1 p hpm]; exact hj
      have hjl':j' < (cellsOf (opv σ p'.2)).length:=by rw [len1 p' hpm']; exact hj'
      have hii:=Q6x (fun p=>Q5q (opv σ p.2)) parts.toList hnd i i' id p p' hp hp' (List.mem_flatMap.2 ⟨_,Q5x hjl,hid⟩) (List.mem_flatMap.2 ⟨_,Q5x hjl',hid'⟩)
      subst hii
      rw [hp] at hp'
      simp only [Option.some.injEq] at hp'
      subst hp'
      exact ⟨rfl,Q6x Q5o (cellsOf (opv σ p.2)) (Q6y _ _ hnd p hpm) j j' id _ _ (getElem?_av hjl) (getElem?_av hjl') hid hid'⟩)
    rw [hxlen] at this
    exact this
   ·rcases hb with rfl | ⟨id,hid,h1,h2⟩
    ·exact ⟨.inr (Nat.le_refl _),by simp⟩
    ·exact ⟨.inl ⟨id,.inl hid,h1,h2⟩,by have:=(hs.fb id b h1 h2).2.1; simp; omega⟩
   ·have e3:upd β k (.slice (some ⟨w.heap.size,0,none⟩) len len) k=.slice (some ⟨w.heap.size,0,none⟩) len len:=Q4m _ _ _
    have:=Q0i.rs (w:={ w with heap:=w.heap.push (.cells out e) }) (Sh:=Sh) (β:=upd β k (.slice (some ⟨w.heap.size,0,none⟩) len len)) k (by rw [e3]; rfl)
    rwa [e3] at this
  ·exact .none
 ·exact .none

def Q77 (TI:Nat→Option Q1r) (o:Oper) (σ:Q0d) (t:Nat) (x y:Operand) (own:Bool):Option Ev :=
 match TI t,opv σ x,o.dst with
 | some fi,.ea id sz i off,none =>
  match σ.O id with
  | some (.arr xs) =>
   bif Nat.beq off 0 && Nat.beq fi.size sz && Nat.beq (cellsOf (opv σ y)).length sz && Q5p σ (opv σ y) && Q6z (Q5q (opv σ y)) && !(Q5q (opv σ y)).contains id then
    some ⟨⟨opr x ++ opr y,id :: Q5q (opv σ y)⟩,⟨[],Q4o id (.arr (xs.set i (pkv own σ (opv σ y)))) (Q5q (opv σ y)),[]⟩,[i < xs.length∧(cellsOf (av xs i)).length=sz]⟩
   else none
  | _=>none
 | _,_,_=>none

theorem Q78 {l:List AV} {i j:Nat} {x:AV} (hi:i < l.length):av (l.set i x) j=if j=i then x else av l j:=by
 simp only [av,List.getD_eq_getElem?_getD,List.getElem?_set]
 by_cases h:j=i
 ·subst h; simp [hi]
 ·have h':i ≠ j:=fun e=>h e.symm
  simp [h,h']

theorem Q79 {TI:Nat→Option Q1r} (hTI:Q20 P TI) (t:Nat) (x y:Operand) (own:Bool) (ho:o.op=.store t x y):Q2o P c o σ (Q77 TI o σ t x y own):=by
 unfold Q77
 split
 ·rename_i fi id sz i off hfi hx hd
  split
  ·rename_i xs hO
   refine .ite (fun hb=>?_) (fun _=>.none)
   simp only [Bool.and_eq_true,Bool.not_eq_true'] at hb
   obtain ⟨⟨⟨⟨⟨hoff,hfsz⟩,hlen⟩,hok⟩,hnd⟩,hnin⟩:=hb
   have hoff:=Nat.eq_of_beq_eq_true hoff
   have hfsz:=Nat.eq_of_beq_eq_true hfsz
   have hlen:=Nat.eq_of_beq_eq_true hlen
   have hnd:=Q70 _ hnd
   have hnin:id ∉ Q5q (opv σ y):=fun h=>by rw [List.contains_iff_mem.2 h] at hnin; exact absurd hnin (by decide)
   subst hoff
   intro ev he
   simp only [Option.some.injEq] at he
   subst he
   intro hobs τ hag hfr a w hsr K Q hK
   obtain ⟨β,fp,Sh,hs⟩:=hsr
   obtain ⟨hilt,hesz⟩:=hobs _ (List.mem_singleton.2 rfl)
   have h1:=hs.opd x; rw [Q2k x (fun t h=>hag.1 t (List.mem_append_left _ h)),hx] at h1
   have h2:=hs.opd y; rw [Q2k y (fun t h=>hag.1 t (List.mem_append_right _ h))] at h2
   obtain ⟨g,n,cp,hg,e1⟩:=h1.ea_inv
   have hO':τ.O id=some (.arr xs):=(hag.2 id (by simp)).trans hO
   have hown:Q04 w Sh (fp id) (β id) (.osl xs):=hs.ob id _ hO'
   have hsome:(τ.O id).isSome:=by rw [hO']; rfl
   obtain ⟨r1,r2,r3⟩:=Q74 hs h2 own hok (fun j hj=>hag.2 j (List.mem_cons_of_mem _ hj))
   rw [hg] at hown
   cases hown with
   | val S v x h=>cases h
   | osl S g c' sz' e cur xs Si hgb hc hc0 hm hsc hz hr hSg hSS hdd =>
    have hszeq:sz'=sz:=by rw [← hz i hilt,hesz]
    subst hszeq
    have hidx:i * sz' + sz' ≤ cur.size:=by
     rw [hsc]
     have:(i + 1) * sz' ≤ cp * sz':=Nat.mul_le_mul_right _ (by omega)
     rwa [Nat.add_mul,Nat.one_mul] at this
    have hone:∀ u ∈ (a.eval y).cells.toList,u.oneCell'=true:=by
     intro u hu
     obtain ⟨q,hq,rfl⟩:=List.getElem_of_mem hu
     simp only [Array.length_toList] at hq
     have hq2:q < (cellsOf (opv σ y)).length:=by omega
     have h4:=r3 q hq2
     have e2:(a.eval y).cells.getD q undef=(a.eval y).cells.toList[q]'(by simpa using hq):=by simp [Array.getD,hq]
     rw [e2] at h4
     refine Q5y (sz:=sz') (x:=pkv own σ (opv σ y)) (j:=q) ?_ (by omega) h4
     simp only [Q5v,Bool.and_eq_true,List.all_eq_true]
     refine ⟨by rw [r2,hlen]; simp,fun z hz'=>?_⟩
     rw [Q5s own σ _ hok] at hz'
     obtain ⟨q',hq',rfl⟩:=List.mem_map.1 hz'
     simp only [Q5p,List.all_eq_true] at hok
     have:=hok q' hq'
     cases q' <;> simp [Q5n,plain] at this <;> simp [pk,plain,Q5u]
     ·cases own <;> simp [plain,Q5u]
     ·split at this
      ·rename_i hσ; simp [hσ,plain,Q5u]
      ·cases this
    obtain ⟨w',hrun,hg',hoth,hsize,hos,htp,hout⟩:=Q5c hTI hfi (w:=w) (g:=g) (off:=i * sz') (v:=a.eval y) hgb (by omega) (by omega) hone
    have hexec:(execOp a.eval o).run P w=.ok .skip w':=by
     rw [Nat.add_zero] at e1
     simp only [execOp,ho,e1,Instr.storeAt,Instr.sureAddr,Sem.run_bind,Sem.run_pure,Result.andThen,hrun]
    unfold Oper.wp
    rw [hexec]
    show K (a.put o.dst undef) w'
    rw [hd,Act.put_none]
    have hShne:∀ b,Sh b→b ≠ g:=fun b hb e=>(hs.fb id g hsome hSg).1 (e ▸ hb)
    have hlenv:(a.eval y).cells.toList.length=sz':=by simp; omega
    have hidsne:∀ j ∈ Q5q (opv σ y),∀ b,(τ.O j).isSome→fp j b→¬ fp id b:=fun j hj b h4 h5 h6=>hnin (hs.dj j id b h4 hsome h5 h6 ▸ hj)
    have hres:=hs.reset id (Q5q (opv σ y)) (.arr (xs.set i (pkv own σ (opv σ y)))) (β id) (fun b=>fp id b∨∃ j ∈ Q5q (opv σ y),(τ.O j).isSome∧fp j b) (.inr ⟨rfl,hsome⟩) (w':=w')
     ⟨hos,htp,hout,by omega,fun b _ hX=>hoth b (fun e=>hX ⟨id,.inr rfl,hsome,e ▸ hSg⟩)⟩
     (by
      show Q04 w' Sh _ (β id) (.osl (xs.set i (pkv own σ (opv σ y))))
      rw [hg]
      have hxl:(xs.set i (pkv own σ (opv σ y))).length=xs.length:=by simp
      have:=Q04.osl (w:=w') (Sh:=Sh) (fun b=>fp id b∨∃ j ∈ Q5q (opv σ y),(τ.O j).isSome∧fp j b) g cp sz' e _ (xs.set i (pkv own σ (opv σ y)))
       (fun i' j' b=>if i'=i then (∃ q ∈ Q5o (av (cellsOf (opv σ y)) j'),(τ.O q).isSome∧fp q b) else Si i' j' b) hg' (by rw [hxl]; exact hc) (by rw [hxl]; exact hc0) hm
       (by rw [Q5b _ _ _ (by rw [hlenv]; exact hidx)]; exact hsc)
       (fun i' hi'=>by
        rw [hxl] at hi'
        rw [Q78 hilt]
        split
        ·rw [r2,hlen]
        ·exact hz i' hi')
       (fun i' j' hi' hj'=>by
        rw [hxl] at hi'
        rw [Q78 hilt] at hj' ⊢
        rw [Q5a _ _ _ _ (by rw [hlenv]; exact hidx),hlenv]
        by_cases hii:i'=i
        ·subst hii
         simp only [if_true] at hj' ⊢
         rw [r2,hlen] at hj'
         rw [if_pos (by omega),Nat.add_sub_cancel_left]
         have e2:(a.eval y).cells.toList.getD j' undef=(a.eval y).cells.getD j' undef:=by simp [List.getD_eq_getElem?_getD,Array.getD_eq_getD_getElem?]
         rw [e2]
         exact (r3 j' (by omega)).mono (fun b hb=>hoth b (hShne b hb)) (fun b ⟨q,hq,h4,h5⟩=>hoth b (fun e=>hidsne q (List.mem_flatMap.2 ⟨_,Q5x (by omega),hq⟩) b h4 h5 (e ▸ hSg))) (fun _ h=>h) (fun _ h=>h)
        ·simp only [if_neg hii] at hj' ⊢
         have hjs:j' < sz':=by rw [hz i' hi'] at hj'; exact hj'
         have hne:¬ (i * sz' ≤ i' * sz' + j'∧i' * sz' + j' < i * sz' + sz'):=by
          rintro ⟨q1,q2⟩
          rcases Nat.lt_or_ge i' i with hlt | hge
          ·have:(i' + 1) * sz' ≤ i * sz':=Nat.mul_le_mul_right _ (by omega)
           rw [Nat.add_mul,Nat.one_mul] at this; omega
          ·have:(i + 1) * sz' ≤ i' * sz':=Nat.mul_le_mul_right _ (by omega)
           rw [Nat.add_mul,Nat.one_mul] at this; omega
         rw [if_neg hne]
         exact (hr i' j' hi' hj').mono (fun b hb=>hoth b (hShne b hb)) (fun b hb=>hoth b (hSS i' j' b hi' hjs hb).2) (fun _ h=>h) (fun _ h=>h))
       (.inl hSg)
       (fun i' j' b hi' hj' hb=>by
        rw [hxl] at hi'
        by_cases hii:i'=i
        ·rw [if_pos hii] at hb
         obtain ⟨q,hq,h4,h5⟩:=hb
         have hqm:q ∈ Q5q (opv σ y):=List.mem_flatMap.2 ⟨_,Q5x (by omega),hq⟩
         exact ⟨.inr ⟨q,hqm,h4,h5⟩,fun e=>hidsne q hqm b h4 h5 (e ▸ hSg)⟩
        ·rw [if_neg hii] at hb
         exact ⟨.inl (hSS i' j' b hi' hj' hb).1,(hSS i' j' b hi' hj' hb).2⟩)
       (fun i1 j1 i2 j2 b hi1 hj1 hi2 hj2 hb1 hb2=>by
        rw [hxl] at hi1 hi2
        by_cases h1':i1=i <;> by_cases h2':i2=i
        ·rw [if_pos h1'] at hb1; rw [if_pos h2'] at hb2
         obtain ⟨q,hq,h4,h5⟩:=hb1
         obtain ⟨q',hq',h4',h5'⟩:=hb2
         have:=hs.dj q q' b h4 h4' h5 h5'
         subst this
         exact ⟨by omega,Q6x Q5o _ hnd j1 j2 q _ _ (getElem?_av (by omega)) (getElem?_av (by omega)) hq hq'⟩
        ·rw [if_pos h1'] at hb1; rw [if_neg h2'] at hb2
         obtain ⟨q,hq,h4,h5⟩:=hb1
         exact absurd (hSS i2 j2 b hi2 hj2 hb2).1 (hidsne q (List.mem_flatMap.2 ⟨_,Q5x (by omega),hq⟩) b h4 h5)
        ·rw [if_neg h1'] at hb1; rw [if_pos h2'] at hb2
         obtain ⟨q,hq,h4,h5⟩:=hb2
         exact absurd (hSS i1 j1 b hi1 hj1 hb1).1 (hidsne q (List.mem_flatMap.2 ⟨_,Q5x (by omega),hq⟩) b h4 h5)
        ·rw [if_neg h1'] at hb1; rw [if_neg h2'] at hb2
         exact hdd i1 j1 i2 j2 b hi1 hj1 hi2 hj2 hb1 hb2)
      rw [hxl] at this
      exact this)
     (fun b hb=>by
      rcases hb with h | ⟨j,hj,h4,h5⟩
      ·exact ⟨.inl ⟨id,.inr rfl,hsome,h⟩,by rw [hsize]; exact (hs.fb id b hsome h).2.1⟩
      ·exact ⟨.inl ⟨j,.inl hj,h4,h5⟩,by rw [hsize]; exact (hs.fb j b h4 h5).2.1⟩)
    exact hK _ _ ⟨_,_,Sh,hres⟩
  ·exact .none
 ·exact .none

end
end Go.Am
