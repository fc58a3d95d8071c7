/- make, literals, stores into elements: told by functions on abstract values, and these are right. -/
import Derived.Test.YtifijafaaljamaaDoorAmK
import Derived.Laws.MakeOwn
import Derived.Laws.OwnMore
set_option linter.unusedSimpArgs false
set_option linter.unusedVariables false
namespace Go.Am
open Go.RowKit

theorem Q6o (n:Int) (h:-9223372036854775808 ≤ n∧n ≤ 9223372036854775807):IntKind.i64.wrap n=n:=by
 have:IntKind.i64.wrap n=(if n % 18446744073709551616 ≥ 9223372036854775808 then n % 18446744073709551616 - 18446744073709551616 else n % 18446744073709551616):=by
  simp [IntKind.wrap,IntKind.bits,IntKind.signed]
 rw [this]; split <;> omega

section
variable {P:Program} {c:Ctx} {o:Oper} {σ:Q0d}

def zc (own:Bool):AV→AV
 | .nils=>bif own then .osl [] else .sl []
 | y=>y
def zel (own:Bool):AV→AV
 | .agg cs=>.agg (cs.map (zc own))
 | .nils=>bif own then .osl [] else .sl []
 | x=>x
theorem Q6p (own:Bool) (w:World) (Sh S:Nat→Prop) (x:AV) (h:Q1v x=true):Q04 w Sh S (Q1u x) (zc own x):=by
 cases x <;> simp [Q1v] at h <;> simp only [Q1u,zc]
 case nils=>cases own; exact .val _ _ _ (.sl0 none 0); exact .osl0 _
 case int=>exact .val _ _ _ (.int _ _)
 case bool=>exact .val _ _ _ (.bool _)
 case str=>exact .val _ _ _ (.str _)
 case nilp=>exact .val _ _ _ .nilp
 case raw=>exact .val _ _ _ (.raw _ (by rw [Q1t h]; rfl))
theorem Q6q (own:Bool) (x:AV) (h:Q1w x=true):cellsOf (zel own x)=(cellsOf x).map (zc own):=by
 cases x <;> simp [Q1w,Q1v] at h <;> simp [zel,zc,cellsOf]
 cases own <;> rfl
theorem Q6r (x:AV) (h:Q1w x=true):(toV x).cells=((cellsOf x).map Q1u).toArray:=by
 cases x <;> simp [Q1w,Q1v] at h <;> simp [toV,Q1u,cellsOf,Value.cells]
 rw [Q1t h]
theorem Q6s {x y:AV} (h:Q1w x=true) (hy:y ∈ cellsOf x):Q1v y=true:=by
 cases x <;> simp [Q1w,Q1v] at h <;> simp [cellsOf] at hy <;> first | (subst hy; rfl) | exact h _ hy | (subst hy; exact h)

def Q6t (TI:Nat→Option Q1r) (nt:Nat) (o:Oper) (σ:Q0d) (t:Nat) (l cp:Operand) (k:Nat) (own:Bool):Option Ev :=
 match shp TI t,o.dst with
 | some (.slice e),some d =>
  match TI e,opv σ l,opv σ cp with
  | some ei,.int _ n,.int _ n' =>
   bif Nat.blt d nt && Nat.ble 1 ei.size && Nat.ble 1 ei.bytes then
    some ⟨⟨opr l ++ opr cp,[]⟩,⟨[(d,.rs k)],Q4o k (.arr (List.replicate n.toNat (zel own ei.zero))) [],[k]⟩,[n=n'∧0 ≤ n∧n.toNat * ei.bytes ≤ 140737488355328]⟩
   else none
  | _,_,_=>none
 | _,_=>none

theorem Q6u {TI:Nat→Option Q1r} (hTI:Q20 P TI) (t:Nat) (l cp:Operand) (k:Nat) (own:Bool) (ho:o.op=.makeSlice t l cp):Q2o P c o σ (Q6t TI c.nt o σ t l cp k own):=by
 unfold Q6t
 split
 ·rename_i e d hsh hd
  split
  ·rename_i ei kn n kn' n' hei hl hcp
   refine .ite (fun hb=>?_) (fun _=>.none)
   simp only [Bool.and_eq_true] at hb
   obtain ⟨⟨hdn,hs1⟩,hb1⟩:=hb
   have hs1:=Nat.le_of_ble_eq_true hs1
   have hb1:=Nat.le_of_ble_eq_true hb1
   intro ev he
   simp only [Option.some.injEq] at he
   subst he
   refine Q4x (x:=.rs k) hd (by simpa [Nat.blt_eq] using hdn) rfl (fun hobs τ ht hO hm hOk β fp Sh a w hs=>?_)
   obtain ⟨rfl,hn0,hbytes⟩:=hobs _ (List.mem_singleton.2 rfl)
   have h1:=hs.opd l; rw [Q2k l (fun t h=>ht t (List.mem_append_left _ h)),hl] at h1
   have h2:=hs.opd cp; rw [Q2k cp (fun t h=>ht t (List.mem_append_right _ h)),hcp] at h2
   obtain ⟨ti,hti,hshp⟩:=Q2l hsh
   obtain ⟨dd,hdd,h3⟩:=Q26 hTI hti w
   rw [hshp] at h3
   have:dd=.slice e:=by cases dd <;> simp [Q1q] at h3 <;> simp [h3]
   subst this
   obtain ⟨ii,hii,hisz,hiby,hiz⟩:=Q23 hTI hei w
   have hsz:=Q24 hTI hei w
   have hzr:=Q25 hTI hei w
   obtain ⟨_,_,hsv,hzl⟩:=hTI e ei hei
   have hn:n.toNat ≤ 140737488355328:=Nat.le_trans (Nat.le_mul_of_pos_right _ hb1) hbytes
   obtain ⟨m,rfl⟩:=Int.eq_ofNat_of_zero_le hn0
   simp only [Int.toNat_natCast] at hn hbytes
   have hbytes':(ei.bytes:Int) * (m:Int) ≤ 281474976710656:=by
    have:ei.bytes * m ≤ 281474976710656:=by rw [Nat.mul_comm]; omega
    have h:((ei.bytes * m:Nat):Int) ≤ 281474976710656:=by omega
    rw [Int.natCast_mul] at h; exact h
   have hz:(toV ei.zero).cells=((cellsOf ei.zero).map Q1u).toArray:=Q6r _ hsv
   obtain ⟨i',hi',hi1,hi2,hi3⟩:=Q21 hTI hei
   obtain ⟨d',hd',hd3⟩:=Q22 hTI hti
   rw [hshp] at hd3
   have:d'=.slice e:=by cases d' <;> simp [Q1q] at hd3 <;> simp [hd3]
   subst this
   have hrun:=run_make (P:=P) w t e i' (toV ei.zero) hd' hi' hi3 kn kn' (m:Int) (m:Int) (by omega) (Int.le_refl _) (by rw [hi2]; exact hbytes') (by omega)
   simp only [Int.toNat_natCast,hi1] at hrun
   have hzs:(toV ei.zero).cells.size=ei.size:=by rw [hz]; simp; exact hzl
   refine ⟨w.alloc (.cells (madeCells (toV ei.zero).cells (m * ei.size)) e),.slice (some ⟨w.heap.size,0,none⟩) m m,fun b=>b=w.heap.size,by simp only [execOp,ho,h1.int_inv,h2.int_inv,Sem.run_bind,hrun,Result.andThen,Sem.run_pure],Q4s _ w _,?_,fun b hb=>⟨.inr (by omega),by subst hb; simp⟩,?_⟩
   ·have:=Q04.osl (w:=w.alloc (.cells (madeCells (toV ei.zero).cells (m * ei.size)) e)) (Sh:=Sh) (fun b=>b=w.heap.size) w.heap.size m ei.size e _ (List.replicate m (zel own ei.zero)) (fun _ _ _=>False)
     (heap_alloc_new w _) (by simp) (by simp) (by simp only [maxLen]; omega) (size_madeCells _ _)
     (fun i hi=>by
      rw [List.length_replicate] at hi
      have e1:av (List.replicate m (zel own ei.zero)) i=zel own ei.zero:=by simp [av,List.getD_eq_getElem?_getD,hi]
      rw [e1,Q6q own _ hsv,List.length_map]; exact hzl)
     (fun i j hi hj=>by
      rw [List.length_replicate] at hi
      have e1:av (List.replicate m (zel own ei.zero)) i=zel own ei.zero:=by simp [av,List.getD_eq_getElem?_getD,hi]
      rw [e1,Q6q own _ hsv] at hj ⊢
      rw [List.length_map] at hj
      have hj':j < ei.size:=by omega
      have hp:i * ei.size + j < m * ei.size:=Q0b hi (Nat.le_refl _) hj'
      have e2:(madeCells (toV ei.zero).cells (m * ei.size)).getD (i * ei.size + j) undef=Q1u ((cellsOf ei.zero)[j]):=by
       simp only [madeCells,Array.getD_eq_getD_getElem?]
       rw [Array.getElem?_map,Array.getElem?_range,if_pos hp]
       simp only [Option.map_some,Option.getD_some,hzs,Q62 hj']
       simp [hz,hj]
      have e3:av ((cellsOf ei.zero).map (zc own)) j=zc own (cellsOf ei.zero)[j]:=by
       simp [av,List.getD_eq_getElem?_getD,hj]
      rw [e2,e3]
      exact Q6p own _ _ _ _ (Q6s hsv (List.getElem_mem hj)))
     rfl (fun i j b hi hj h=>h.elim) (fun i j i' j' b _ _ _ _ h=>h.elim)
    rw [List.length_replicate] at this
    exact this
   ·have e3:upd β k (.slice (some ⟨w.heap.size,0,none⟩) m m) k=.slice (some ⟨w.heap.size,0,none⟩) m m:=Q4m _ _ _
    have:=Q0i.rs (w:=w.alloc (.cells (madeCells (toV ei.zero).cells (m * ei.size)) e)) (Sh:=Sh) (β:=upd β k (.slice (some ⟨w.heap.size,0,none⟩) m m)) k (by rw [e3]; rfl)
    rwa [e3] at this
  ·exact .none
 ·exact .none
end
end Go.Am
