/- Cuts of an own row of elements of one cell, and a copy from one cut of a row to another of the same row. -/
import Derived.Test.YtifijafaaljamaaDoorAmTK
import Derived.Laws.CopyRow
set_option linter.unusedSimpArgs false
set_option linter.unusedVariables false
namespace Go.Am
open Go.RowKit

section
variable {P:Program} {c:Ctx} {o:Oper} {σ:Q0d}
theorem Qbc (g o k:Nat):(⟨g,o,none⟩:Addr).add k=⟨g,o + k,none⟩:=by unfold Addr.add; split <;> simp_all
def Qbd (TI:Nat→Option Q1r) (nt:Nat) (o:Oper) (σ:Q0d) (t:Nat) (x:Operand) (lo:Option Operand):Option Ev :=
 match shp TI t,Q48 σ lo,opv σ x with
 | some (.slice e),some (some l),.rs id =>
  match TI e,σ.O id with
  | some ei,some (.arr xs)=>bif Nat.beq ei.size 1 then qv nt o (.cut id l.toNat) (opr x ++ Q49 lo) [id] [0 < xs.length∧0 ≤ l∧l ≤ (xs.length:Int)] else none
  | _,_=>none
 | _,_,_=>none
theorem Qbe {w:World} {Sh S:Nat→Prop} {v:Value} {xs:List AV} (h:Q04 w Sh S v (.osl xs)) (hne:0 < xs.length):∃ g c,v=.slice (some ⟨g,0,none⟩) xs.length c∧xs.length ≤ c:=by
 cases h with
 | val S v x h=>cases h
 | osl0 S=>simp at hne
 | osl S g c sz e cur xs Si hg hc hc0 hm hs hz h hSg hS hd=>exact ⟨g,c,rfl,hc⟩
theorem Qbf {TI:Nat→Option Q1r} (hTI:Q20 P TI) (t:Nat) (x:Operand) (lo:Option Operand) (ho:o.op=.slice t x lo none none):Q2o P c o σ (Qbd TI c.nt o σ t x lo):=by
 unfold Qbd
 split
 ·rename_i e l id hsh hl hx
  obtain ⟨ti,hti,hshp⟩:=Q2l hsh
  split
  ·rename_i ei xs hei hO
   refine .ite (fun hb=>?_) (fun _=>.none)
   have hb:=Nat.eq_of_beq_eq_true hb
   refine Q2p fun hobs τ ht hob β fp Sh a w hs=>?_
   have t1:∀ t ∈ opr x,τ.T t=σ.T t:=fun t h=>ht t (by simp [h])
   have t2:∀ t ∈ Q49 lo,τ.T t=σ.T t:=fun t h=>ht t (by simp [h])
   have h1:=hs.opd x; rw [Q2k x t1,hx] at h1
   obtain ⟨l1,l2⟩:=Q4c hs lo (some l) hl t2
   obtain ⟨hne,b1,b2⟩:=hobs _ (List.mem_singleton.2 rfl)
   obtain ⟨d,hd,h3⟩:=Q26 hTI hti w
   rw [hshp] at h3
   have:d=.slice e:=by cases d <;> simp [Q1q] at h3 <;> simp [h3]
   subst this
   have hsz:=Q24 hTI hei w
   have hO':τ.O id=some (.arr xs):=(hob id (by simp)).trans hO
   have hown:Q04 w Sh (fp id) (β id) (.osl xs):=hs.ob id _ hO'
   obtain ⟨g,cp,hg,hcp⟩:=Qbe hown hne
   have he:=h1.rs_inv
   rw [hg] at he
   have hsb:(Instr.sliceBounds true xs.length cp (lo.map a.eval) ((none:Option Operand).map a.eval) ((none:Option Operand).map a.eval)).run P w=.ok (((some l).getD 0).toNat,((none:Option Int).getD xs.length).toNat,((none:Option Int).getD cp).toNat) w:=by
    refine Q4a true xs.length cp _ _ _ (some l) none none l1 l2 (fun v h=>by simp at h) (fun _=>rfl) (fun v h=>by simp at h) (fun _=>rfl) ?_ ?_ ?_ (.inl rfl) w
    ·simp only [Option.getD_none]; omega
    ·simp only [Option.getD_none]; omega
    ·simp only [Option.getD_none,Option.getD_some]; omega
   simp only [Option.getD_none,Option.getD_some,Int.toNat_natCast] at hsb
   have hadd:∀ k:Nat,(⟨g,0,none⟩:Addr).add k=⟨g,k,none⟩:=fun k=>by unfold Addr.add; split <;> simp_all
   refine ⟨.slice (some ⟨g,if cp=l.toNat then 0 else l.toNat,none⟩) (xs.length - l.toNat) (cp - l.toNat),?_,.cut id l.toNat g xs.length cp _ hg (by omega) hcp ⟨fun h=>by rw [if_neg (by omega)],by split <;> omega⟩⟩
   simp only [execOp,ho,he,Instr.sliceAt,Instr.slice,Sem.run_bind,hd,Result.andThen,hsb,hsz,Sem.run_pure,hb,Nat.mul_one]
   by_cases q:cp=l.toNat
   ·rw [if_pos q,if_pos q]
   ·rw [if_neg q,if_neg q,Option.map_some,hadd]
  ·exact .none
 ·exact .none

def cpy {α:Type} (xs:List α) (d s:Nat):List α:=xs.take d ++ ((xs.drop s).take (min (xs.length - s) (xs.length - d)) ++ xs.drop (d + min (xs.length - s) (xs.length - d)))
theorem Qbg {α:Type} (xs:List α) (d s:Nat) (hd:d ≤ xs.length) (hs:s ≤ xs.length):(cpy xs d s).length=xs.length:=by
 unfold cpy
 simp only [List.length_append,List.length_take,List.length_drop]
 omega
def Qbh (TI:Nat→Option Q1r) (nt:Nat) (o:Oper) (σ:Q0d) (t:Nat) (x y:Operand):Option Ev :=
 match shp TI t,opv σ x,opv σ y,o.dst with
 | some (.slice e),.cut id l,.cut id' r,some d =>
  match TI e,σ.O id with
  | some ei,some (.arr xs) =>
   bif Nat.beq ei.size 1 && Nat.beq id id' && Nat.blt d nt then
    some ⟨⟨opr x ++ opr y,[id]⟩,⟨[(d,.int .i64 ((min (xs.length - r) (xs.length - l):Nat):Int))],Q4o id (.arr (cpy xs l r)) [],[]⟩,[(∀ z ∈ xs,plain z=true)∧0 < xs.length∧l ≤ xs.length∧r ≤ xs.length]⟩
   else none
  | _,_=>none
 | _,_,_,_=>none
theorem Qbi {z:AV} (h:plain z=true):cellsOf z=[z]:=by cases z <;> first | rfl | simp [plain] at h
theorem Qbj {w:World} {Sh:Nat→Prop} {v:Value} {z:AV} (h:Q03 w Sh v z) (hp:plain z=true):v.oneCell'=true:=by
 cases h <;> first | rfl | simp [plain] at hp
theorem Qbk {TI:Nat→Option Q1r} (hTI:Q20 P TI) (t t':Nat) (x y:Operand) (ho:o.op=.call { callee:=.builtin .copy,args:=#[x,y],argTypes:=#[t,t'] }):Q2o P c o σ (Qbh TI c.nt o σ t x y):=by
 unfold Qbh
 split
 ·rename_i e id l id' r d hsh hx hy hd
  obtain ⟨ti,hti,hshp⟩:=Q2l hsh
  split
  ·rename_i ei xs hei hO
   refine .ite (fun hb=>?_) (fun _=>.none)
   simp only [Bool.and_eq_true] at hb
   obtain ⟨⟨hsz1,hidd⟩,hdn⟩:=hb
   have hsz1:=Nat.eq_of_beq_eq_true hsz1
   have hidd:=Nat.eq_of_beq_eq_true hidd
   have hdn:d < c.nt:=by simpa [Nat.blt_eq] using hdn
   subst hidd
   intro ev he
   simp only [Option.some.injEq] at he
   subst he
   intro hobs τ hag hfr a w hsr K Q hK
   obtain ⟨β,fp,Sh,hs⟩:=hsr
   obtain ⟨hpl,hne,hll,hrl⟩:=hobs _ (List.mem_singleton.2 rfl)
   have h1:=hs.opd x; rw [Q2k x (fun t h=>hag.1 t (List.mem_append_left _ h)),hx] at h1
   have h2:=hs.opd y; rw [Q2k y (fun t h=>hag.1 t (List.mem_append_right _ h)),hy] at h2
   obtain ⟨g,n,cp,o1,hg,q1,q2,q3,e1⟩:=h1.cut_inv
   obtain ⟨g',n',cp',o2,hg',q1',q2',q3',e2⟩:=h2.cut_inv
   rw [hg] at hg'
   simp only [Value.slice.injEq,Option.some.injEq,Addr.mk.injEq,and_true] at hg'
   obtain ⟨rfl,rfl,rfl⟩:=hg'
   have hO':τ.O id=some (.arr xs):=(hag.2 id (by simp)).trans hO
   have hsome:(τ.O id).isSome:=by rw [hO']; rfl
   have hown:Q04 w Sh (fp id) (β id) (.osl xs):=hs.ob id _ hO'
   obtain ⟨dd,hdd,h3⟩:=Q22 hTI hti
   rw [hshp] at h3
   have:dd=.slice e:=by cases dd <;> simp [Q1q] at h3 <;> simp [h3]
   subst this
   obtain ⟨ii,hii,hiz⟩:=Q21 hTI hei
   rw [hg] at hown
   generalize hvv:(Value.slice (some ⟨g,0,none⟩) n cp)=vv at hown
   cases hown with
   | val S v x h=>cases h
   | osl0 S=>cases hvv
   | osl S g0 c' sz' ty cur xs Si hgb hc hc0 hm hsc hz hr hSg hSS hdd2 =>
    simp only [Value.slice.injEq,Option.some.injEq,Addr.mk.injEq,and_true] at hvv
    obtain ⟨rfl,rfl,rfl⟩:=hvv
    have hrow:∀ i,i < xs.length→Q03 w Sh (cur.getD (i * sz') undef) (av xs i)∧plain (av xs i)=true∧sz'=1:=fun i hi=>by
     have hp:=hpl _ (Q5x hi)
     have hcl:=Qbi hp
     have h5:=hz i hi
     rw [hcl,List.length_singleton] at h5
     have h6:=hr i 0 hi (by rw [hcl]; simp)
     rw [hcl] at h6
     exact ⟨(Q04.plain h6 hp),hp,h5.symm⟩
    let m:=min (xs.length - r) (xs.length - l)
    have hml:l + m ≤ xs.length∧r + m ≤ xs.length:=by simp only [m]; omega
    let cs:List Value:=(List.range m).map fun j=>cur.getD (r + j) undef
    have hcsl:cs.length=m:=by simp [cs]
    have hcs:∀ j v,cs[j]?=some v→j < m∧v=cur.getD (r + j) undef:=fun j v h=>by
     have hj:j < m:=by have:=(List.getElem?_eq_some_iff.1 h).1; rwa [hcsl] at this
     refine ⟨hj,?_⟩
     simp only [cs,List.getElem?_map,List.getElem?_range hj,Option.map_some,Option.some.injEq] at h
     exact h.symm
    have hsz':sz'=1:=(hrow 0 hne).2.2
    subst hsz'
    have hcsize:cp=cur.size:=by rw [hsc,Nat.mul_one]
    have hadd:∀ k:Nat,(⟨g,o2,none⟩:Addr).add k=⟨g,o2 + k,none⟩:=Qbc g o2
    have hfit:o1 + m ≤ cur.size:=by
     by_cases h0:m=0
     ·have:=q3.2; omega
     ·have:o1=l:=q3.1 (by omega)
      omega
    have hrun:=run_copy_row (P:=P) w t t' o.type e g o1 (xs.length - l) (cp - l) ⟨g,o2,none⟩ (xs.length - r) (cp - r) cur ty cs hdd (by rw [hii]; simp only [Option.map_some,hiz,hsz1]) hgb (by rw [hcsl])
     (fun j v h=>by
      obtain ⟨hj,rfl⟩:=hcs j v h
      have:o2=r:=q3'.1 (by omega)
      rw [hadd,this]
      exact Q0a hgb _ (by omega))
     (by rw [hcsl]; exact hfit)
     (fun v hv=>by
      obtain ⟨j,hj,rfl⟩:=List.getElem_of_mem hv
      obtain ⟨hj2,e3⟩:=hcs j _ (List.getElem?_eq_getElem hj)
      rw [e3]
      obtain ⟨h5,h6,_⟩:=hrow (r + j) (by omega)
      rw [Nat.mul_one] at h5
      exact Qbj h5 h6)
    rw [hcsl] at hrun
    have hstor:(cur.toList.take o1 ++ cs ++ cur.toList.drop (o1 + m)).toArray=Q59 cur o1 cs:=by unfold Q59; rw [hcsl]
    rw [hstor] at hrun
    have hsz2:(Q59 cur o1 cs).size=cur.size:=Q5b _ _ _ (by rw [hcsl]; exact hfit)
    have hget:∀ i,i < xs.length→∃ k,k < xs.length∧(Q59 cur o1 cs).getD i undef=cur.getD k undef∧av (cpy xs l r) i=av xs k:=fun i hi=>by
     have hcut:(cpy xs l r)[i]?=xs[if l ≤ i∧i < l + m then r + (i - l) else i]?:=by
      unfold cpy
      rw [List.getElem?_append,List.getElem?_append,List.length_take,List.length_take,List.length_drop,Nat.min_eq_left hll]
      have hm1:min (min (xs.length - r) (xs.length - l)) (xs.length - r)=m:=by simp only [m]; omega
      rw [hm1]
      by_cases a1:i < l
      ·rw [if_pos a1,if_neg (by omega),List.getElem?_take,if_pos a1]
      ·rw [if_neg a1]
       by_cases a2:i - l < m
       ·rw [if_pos a2,if_pos (by omega),List.getElem?_take,if_pos (show i - l < min (xs.length - r) (xs.length - l) from a2),List.getElem?_drop]
       ·rw [if_neg a2,if_neg (by omega),List.getElem?_drop]
        congr 1
        show l + m + (i - l - m)=i
        omega
     have hav:∀ (ys zs:List AV) (i k:Nat),ys[i]?=zs[k]?→av ys i=av zs k:=fun ys zs i k h=>by simp only [av,List.getD_eq_getElem?_getD,h]
     refine ⟨_,?_,?_,hav _ _ _ _ hcut⟩
     ·split <;> omega
     ·rw [Q5a _ _ _ _ (by rw [hcsl]; exact hfit),hcsl]
      by_cases h0:m=0
      ·rw [if_neg (by omega),if_neg (by omega)]
      ·have:o1=l:=q3.1 (by omega)
       rw [this]
       by_cases a:l ≤ i∧i < l + m
       ·rw [if_pos a,if_pos a]
        have hj:i - l < m:=by omega
        simp only [cs,List.getD_eq_getElem?_getD,List.getElem?_map,List.getElem?_range hj,Option.map_some,Option.getD_some]
       ·rw [if_neg a,if_neg a]
    have hexec:(execOp a.eval o).run P w=.ok (.value (goInt m)) (w.setRow g (Q59 cur o1 cs)):=by
     simp [execOp,ho,resolve,Sem.run_bind,Sem.run_pure,Result.andThen,invoke,builtin,e1,e2,hrun,pure]
    unfold Oper.wp
    rw [hexec]
    show K (a.put o.dst (goInt m)) (w.setRow g (Q59 cur o1 cs))
    rw [hd]
    have hg':=setRow_heap w g cur (Q59 cur o1 cs) ty _ hgb
    have hoth:∀ b,b ≠ g→(w.setRow g (Q59 cur o1 cs)).heap[b]?=w.heap[b]?:=fun b hb=>setRow_other w g b _ hb
    have hShne:∀ b,Sh b→b ≠ g:=fun b hb e=>(hs.fb id g hsome hSg).1 (e ▸ hb)
    have hlen:=Qbg xs l r hll hrl
    have hres:=hs.reset id [] (.arr (cpy xs l r)) (β id) (fp id) (.inr ⟨rfl,hsome⟩) (w':=w.setRow g (Q59 cur o1 cs))
     ⟨rfl,rfl,rfl,by simp [World.setRow],fun b _ hX=>hoth b (fun e=>hX ⟨id,.inr rfl,hsome,e ▸ hSg⟩)⟩
     (by
      show Q04 _ Sh _ (β id) (.osl (cpy xs l r))
      rw [hg]
      have:=Q04.osl (w:=w.setRow g (Q59 cur o1 cs)) (Sh:=Sh) (fp id) g cp 1 ty (Q59 cur o1 cs) (cpy xs l r) (fun _ _ _=>False) hg' (by rw [hlen]; exact hc) (by rw [hlen]; exact hc0) hm (by rw [hsz2,← hcsize,Nat.mul_one])
       (fun i hi=>by
        rw [hlen] at hi
        obtain ⟨k,hk,_,e3⟩:=hget i hi
        rw [e3,Qbi (hrow k hk).2.1]; rfl)
       (fun i j hi hj=>by
        rw [hlen] at hi
        obtain ⟨k,hk,e4,e3⟩:=hget i hi
        have hcl:=Qbi (hrow k hk).2.1
        rw [e3,hcl] at hj ⊢
        have:j=0:=by simpa using hj
        subst this
        rw [Nat.mul_one,Nat.add_zero,e4]
        have h5:=(hrow k hk).1
        rw [Nat.mul_one] at h5
        exact .val _ _ _ (h5.mono (fun b hb=>hoth b (hShne b hb)) (fun _ h=>h)))
       hSg (fun _ _ _ _ _ h=>h.elim) (fun _ _ _ _ _ _ _ _ _ h=>h.elim)
      rw [hlen] at this
      exact this)
     (fun b hb=>⟨.inl ⟨id,.inr rfl,hsome,hb⟩,by rw [setRow_size]; exact (hs.fb id b hsome hb).2.1⟩)
    exact hK _ _ ⟨_,_,Sh,hres.put d hdn (goInt m) (.int .i64 ((m:Nat):Int)) (.base _ _ (.int .i64 _))⟩
  ·exact .none
 ·exact .none
end
end Go.Am
