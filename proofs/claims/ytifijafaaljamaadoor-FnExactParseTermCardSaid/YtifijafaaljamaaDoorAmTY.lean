/- Rows of plain cells that may be empty though they have room (slices.Grow, slices.Concat): cut out of an own row, appended to, given by a call. -/
import Derived.Test.YtifijafaaljamaaDoorAmT
set_option linter.unusedSimpArgs false
set_option linter.unusedVariables false
namespace Go.Am
open Go.RowKit

section
variable {P:Program} {c:Ctx} {o:Oper} {σ:Q0d}

def Qaa (TI:Nat→Option Q1r) (nt:Nat) (o:Oper) (σ:Q0d) (t:Nat) (x:Operand):Option Ev :=
 match opv σ x,shp TI t with
 | .nils,some (.slice _)=>qv nt o (.int .i64 0) (opr x) [] []
 | _,_=>none
theorem Qab {TI:Nat→Option Q1r} (hTI:Q20 P TI) (t:Nat) (x:Operand) (ho:o.op=.call { callee:=.builtin .cap,args:=#[x],argTypes:=#[t] }):Q2o P c o σ (Qaa TI c.nt o σ t x):=by
 have run:∀ (a:Act) (w:World) (u:Value),(Builtin.cap_ #[t] o.type #[a.eval x]).run P w=.ok u w→(execOp a.eval o).run P w=.ok (.value u) w:=by
  intro a w u h
  simp only [execOp,ho,resolve,Sem.run_bind,Sem.run_pure,Result.andThen,invoke,builtin]
  simp [h,Sem.run_bind,Sem.run_pure,Result.andThen,pure]
 unfold Qaa
 split
 ·rename_i e hx hsh
  obtain ⟨ti,hti,hshp⟩:=Q2l hsh
  refine Q2p fun hobs τ ht hob β fp Sh a w hs=>?_
  have h1:=hs.opd x; rw [Q2k x ht,hx] at h1
  obtain ⟨d,hd,h3⟩:=Q26 hTI hti w
  rw [hshp] at h3
  have:d=.slice e:=by cases d <;> simp [Q1q] at h3 <;> simp [h3]
  subst this
  refine ⟨_,run a w (.int .i64 ((0:Nat):Int)) ?_,.base _ _ (.int _ _)⟩
  simp [Builtin.cap_,h1.nils_inv,Sem.run_bind,Sem.run_pure,Result.andThen,hd,goInt]
 ·exact .none

def Qac (σ:Q0d):Option Operand→Bool
 | none=>true
 | some x=>match opv σ x with | .int _ 0=>true | _=>false
theorem Qad {σ:Q0d} {x:Option Operand} (h:Qac σ x=true):∃ l,Q48 σ x=some l∧l.getD 0=0∧(x.isSome→l=some 0):=by
 cases x with
 | none=>exact ⟨none,rfl,rfl,fun h=>by simp at h⟩
 | some x =>
  simp only [Qac] at h
  split at h
  ·rename_i k hx
   exact ⟨some 0,by simp only [Q48,hx],rfl,fun _=>rfl⟩
  ·cases h

def Qae (TI:Nat→Option Q1r) (nt:Nat) (o:Oper) (σ:Q0d) (t:Nat) (x:Operand) (lo hi:Option Operand):Option Ev :=
 match shp TI t,opv σ x with
 | some (.slice e),.nils=>match TI e with
  | some _=>bif Qac σ lo && Qac σ hi then qv nt o .nils (opr x ++ Q49 lo ++ Q49 hi) [] [] else none
  | none=>none
 | _,_=>none
theorem Qaf {TI:Nat→Option Q1r} (hTI:Q20 P TI) (t:Nat) (x:Operand) (lo hi:Option Operand) (ho:o.op=.slice t x lo hi none):Q2o P c o σ (Qae TI c.nt o σ t x lo hi):=by
 unfold Qae
 split
 ·rename_i e hsh hx
  obtain ⟨ti,hti,hshp⟩:=Q2l hsh
  split
  ·rename_i ei hei
   refine .ite (fun hb=>?_) (fun _=>.none)
   simp only [Bool.and_eq_true] at hb
   obtain ⟨l,hl,hl0,_⟩:=Qad hb.1
   obtain ⟨h,hh,hh0,_⟩:=Qad hb.2
   refine Q2p fun hobs τ ht _ β fp Sh a w hs=>?_
   have h1:=hs.opd x; rw [Q2k x (fun t h=>ht t (by simp [h])),hx] at h1
   obtain ⟨l1,l2⟩:=Q4c hs lo l hl (fun t h=>ht t (by simp [h]))
   obtain ⟨h1',h2'⟩:=Q4c hs hi h hh (fun t h=>ht t (by simp [h]))
   obtain ⟨d,hd,h3⟩:=Q26 hTI hti w
   rw [hshp] at h3
   have:d=.slice e:=by cases d <;> simp [Q1q] at h3 <;> simp [h3]
   subst this
   have hsz:=Q24 hTI hei w
   have hg:h.getD ((0:Nat):Int)=0:=by cases h with | none=>rfl | some q=>exact hh0
   have hsb:(Instr.sliceBounds true 0 0 (lo.map a.eval) (hi.map a.eval) ((none:Option Operand).map a.eval)).run P w=.ok ((l.getD 0).toNat,(h.getD ((0:Nat):Int)).toNat,((none:Option Int).getD ((0:Nat):Int)).toNat) w:=by
    refine Q4a true 0 0 _ _ _ l h none l1 l2 h1' h2' (fun v hv=>by simp at hv) (fun _=>rfl) (by simp) (by rw [hg]; simp) (by rw [hl0,hg]; simp) (.inl rfl) w
   refine ⟨.slice none 0 0,?_,.base _ _ .nils⟩
   simp only [execOp,ho,h1.nils_inv,Instr.sliceAt,Instr.slice,Sem.run_bind,hd,Result.andThen,hsb,hsz,Sem.run_pure,hl0,hg]
   rfl
  ·exact .none
 ·exact .none

def Qag (TI:Nat→Option Q1r) (nt:Nat) (o:Oper) (σ:Q0d) (t:Nat) (x:Operand) (lo hi:Option Operand) (k:Nat):Option Ev :=
 match shp TI t,opv σ x,o.dst with
 | some (.slice e),.rs id,some d =>
  match TI e,σ.O id with
  | some ei,some (.ary xs) =>
   bif Nat.blt d nt && lo.isNone && hi.isSome && Qac σ hi && Nat.beq ei.size 1 then
    some ⟨⟨opr x ++ Q49 hi,[id]⟩,⟨[(d,.rs k)],Q4o k (.ary []) [id],[k]⟩,[]⟩
   else none
  | _,_=>none
 | _,_,_=>none
theorem Qah {TI:Nat→Option Q1r} (hTI:Q20 P TI) (t:Nat) (x:Operand) (lo hi:Option Operand) (k:Nat) (ho:o.op=.slice t x lo hi none):Q2o P c o σ (Qag TI c.nt o σ t x lo hi k):=by
 unfold Qag
 split
 ·rename_i e id d hsh hx hd
  obtain ⟨ti,hti,hshp⟩:=Q2l hsh
  split
  ·rename_i ei xs hei hO
   refine .ite (fun hb=>?_) (fun _=>.none)
   simp only [Bool.and_eq_true] at hb
   obtain ⟨⟨⟨⟨hdn,hlo⟩,his⟩,hz0⟩,hsz1⟩:=hb
   have hlo:lo=none:=Option.isNone_iff_eq_none.1 hlo
   subst hlo
   obtain ⟨h,hh,hh0,hhs⟩:=Qad hz0
   have hh1:=hhs his
   subst hh1
   have hsz1:=Nat.eq_of_beq_eq_true hsz1
   intro ev he
   simp only [Option.some.injEq] at he
   subst he
   refine Q4x (x:=.rs k) hd (by simpa [Nat.blt_eq] using hdn) rfl (fun hobs τ ht hob hm hOk β fp Sh a w hs=>?_)
   have h1:=hs.opd x; rw [Q2k x (fun t h=>ht t (List.mem_append_left _ h)),hx] at h1
   obtain ⟨h1',h2'⟩:=Q4c hs hi (some 0) hh (fun t h=>ht t (List.mem_append_right _ h))
   have hO':τ.O id=some (.ary xs):=(hob id (by simp)).trans hO
   have hrow:Q0l w Sh (fp id) (β id) xs:=hs.ob id _ hO'
   have e1:=h1.rs_inv
   obtain ⟨dd,hdd,h3⟩:=Q26 hTI hti w
   rw [hshp] at h3
   have:dd=.slice e:=by cases dd <;> simp [Q1q] at h3 <;> simp [h3]
   subst this
   have hsz:=Q24 hTI hei w
   have hsb:∀ n cp,(Instr.sliceBounds true n cp ((none:Option Operand).map a.eval) (hi.map a.eval) ((none:Option Operand).map a.eval)).run P w=.ok (((none:Option Int).getD 0).toNat,((some (0:Int)).getD (n:Int)).toNat,((none:Option Int).getD (cp:Int)).toNat) w:=fun n cp =>
    Q4a true n cp _ _ _ none (some 0) none (fun v hv=>by simp at hv) (fun _=>rfl) h1' h2' (fun v hv=>by simp at hv) (fun _=>rfl) (by simp) (by simp) (by simp) (.inl rfl) w
   have hfreed:∀ b,fp id b→Q4q τ fp k [id] b:=fun b hb=>⟨id,.inl (by simp),by rw [hO']; rfl,hb⟩
   rcases hrow with ⟨hv,rfl⟩ | ⟨g,cp,e',cur,hv,hg,hc,hm',hcs,_,_,hSg⟩
   ·refine ⟨w,.slice none 0 0,fun _=>False,?_,Fr.refl _ w,.inl ⟨rfl,rfl⟩,fun b hb=>hb.elim,?_⟩
    ·simp only [execOp,ho,e1,hv,Instr.sliceAt,Instr.slice,Sem.run_bind,hdd,Result.andThen,hsb,hsz,Sem.run_pure]
     rfl
    ·have e3:upd β k (.slice none 0 0) k=.slice none 0 0:=Q4m _ _ _
     have:=Q0i.rs (w:=w) (Sh:=Sh) (β:=upd β k (.slice none 0 0)) k (by rw [e3]; rfl)
     rwa [e3] at this
   ·refine ⟨w,.slice (some ⟨g,0,none⟩) 0 cp,fp id,?_,Fr.refl _ w,.inr ⟨g,cp,e',cur,⟨rfl,hg,Nat.zero_le _,hm',(by omega),(fun x hx=>(by cases hx)),(fun i hi=>absurd hi (by simp)),hSg⟩⟩,fun b hb=>⟨.inl (hfreed b hb),(hs.fb id b (by rw [hO']; rfl) hb).2.1⟩,?_⟩
    ·simp only [execOp,ho,e1,hv,Instr.sliceAt,Instr.slice,Sem.run_bind,hdd,Result.andThen,hsb,hsz,Sem.run_pure]
     congr 2
     simp only [Option.getD_none,Option.getD_some,Int.toNat_natCast,Int.toNat_zero,Nat.sub_zero,Nat.zero_mul]
     congr 1
     split
     ·rfl
     ·rfl
    ·have e3:upd β k (.slice (some ⟨g,0,none⟩) 0 cp) k=.slice (some ⟨g,0,none⟩) 0 cp:=Q4m _ _ _
     have:=Q0i.rs (w:=w) (Sh:=Sh) (β:=upd β k (.slice (some ⟨g,0,none⟩) 0 cp)) k (by rw [e3]; rfl)
     rwa [e3] at this
  ·exact .none
 ·exact .none

theorem Qai {x:AV} (h:plain x=true):cellsOf x=[x]:=by cases x <;> simp [plain] at h <;> rfl
theorem Qaj {z:AV} (h:plain z=true) (hs:Q1w z=true):(toV z).cells=#[toV z]:=by
 cases z <;> simp [plain] at h <;> first | rfl | (simp only [Q1w,Q1v] at hs; rw [Q1t hs]; rfl) | simp [Q1w,Q1v] at hs
def Qak (TI:Nat→Option Q1r) (nt:Nat) (o:Oper) (σ:Q0d) (t t':Nat) (s x:Operand) (k:Nat):Option Ev :=
 match shp TI t,shp TI t',o.dst,opv σ s,opv σ x with
 | some (.slice e),some (.int _),some d,.nils,.int _ n =>
  match TI e with
  | some ei =>
   bif Nat.blt d nt && Nat.beq ei.size 1 && Nat.ble 1 ei.bytes && plain ei.zero then
    some ⟨⟨opr s ++ opr x,[]⟩,⟨[(d,.rs k)],Q4o k (.ary (List.replicate n.toNat ei.zero)) [],[k]⟩,[0 ≤ n∧n.toNat * ei.bytes ≤ 140737488355328]⟩
   else none
  | none=>none
 | _,_,_,_,_=>none
theorem Qal {P:Program} (w:World) (t t' ty e:TypeId) (k k':IntKind) (i:TypeInfo) (z:Value) (ht:P.underlying t=some (.slice e)) (ht':P.underlying t'=some (.int k)) (hi:P.info? e=some i) (hz:i.zero=some z) (hsz:i.size=1)
  (n:Nat) (h0:0 < n) (h63:(n:Int) ≤ 9223372036854775807) (h48:n * i.bytes ≤ 281474976710656) :
  (Builtin.append_ #[t,t'] ty #[.slice none 0 0,.int k' (n:Int)]).run P w =
   .ok (.slice (some ⟨w.heap.size,0,none⟩) n (grownCap w n 0 e)) (w.drew.alloc (.cells (Builtin.zeroCells z.cells n ++ Builtin.zeroCells z.cells (grownCap w n 0 e - n)) e)):=by
 have hn:n ≠ 0:=by omega
 have h63':¬ (9223372036854775807 < (n:Int)):=by omega
 have h48':¬ (281474976710656 < Builtin.nextslicecap n 0 * i.bytes):=by rw [nextslicecap_zero h0]; omega
 have hw:IntKind.i64.wrap (n:Int)=(n:Int):=by rw [IntKind.wrap_i64]; omega
 have hb:¬ (281474976710656 < (n:Int) * (i.bytes:Int)):=by
  have:((n * i.bytes:Nat):Int) ≤ 281474976710656:=by omega
  rw [Int.natCast_mul] at this
  omega
 have hneg:¬ ((n:Int) < 0):=by omega
 simp [Builtin.append_,run_underlying ht,run_underlying ht',sizeOf,typeInfo,zeroValue,hi,hz,Builtin.lenOf,asInt,asIntOf,hw,hneg,hb,hn,h63',h48',hsz,Question.forced,run_firstCells_none,newRow,grownCap]
theorem Qam {P:Program} (w:World) (t t' ty e:TypeId) (k k':IntKind) (i:TypeInfo) (ht:P.underlying t=some (.slice e)) (ht':P.underlying t'=some (.int k)) (hi:P.info? e=some i) :
  (Builtin.append_ #[t,t'] ty #[.slice none 0 0,.int k' 0]).run P w=.ok (.slice none 0 0) w:=by
 have hw:IntKind.i64.wrap 0=0:=by rw [IntKind.wrap_i64]; omega
 simp [Builtin.append_,run_underlying ht,run_underlying ht',sizeOf,typeInfo,hi,Builtin.lenOf,asInt,asIntOf,hw]
theorem Qan {TI:Nat→Option Q1r} (hTI:Q20 P TI) (t t':Nat) (s x:Operand) (k:Nat) (ho:o.op=.call { callee:=.builtin .append,args:=#[s,x],argTypes:=#[t,t'] }) :
  Q2o P c o σ (Qak TI c.nt o σ t t' s x k):=by
 have run:∀ (a:Act) (w w':World) (u:Value),(Builtin.append_ #[t,t'] o.type #[a.eval s,a.eval x]).run P w=.ok u w'→(execOp a.eval o).run P w=.ok (.value u) w':=by
  intro a w w' u h
  simp [execOp,ho,resolve,Sem.run_bind,Sem.run_pure,Result.andThen,invoke,builtin,h,pure]
 unfold Qak
 split
 ·rename_i e kk d kn n hsh hsh' hd hx1 hx2
  split
  ·rename_i ei hei
   refine .ite (fun hb=>?_) (fun _=>.none)
   simp only [Bool.and_eq_true] at hb
   obtain ⟨⟨⟨hdn,hs1⟩,hb1⟩,hpz⟩:=hb
   have hs1:=Nat.eq_of_beq_eq_true hs1
   have hb1:=Nat.le_of_ble_eq_true hb1
   intro ev he
   simp only [Option.some.injEq] at he
   subst he
   refine Q4x (x:=.rs k) hd (by simpa [Nat.blt_eq] using hdn) rfl (fun hobs τ ht hob hm hOk β fp Sh a w hs=>?_)
   obtain ⟨hn0,hbytes⟩:=hobs _ (List.mem_singleton.2 rfl)
   have h1:=hs.opd s; rw [Q2k s (fun t h=>ht t (List.mem_append_left _ h)),hx1] at h1
   have h2:=hs.opd x; rw [Q2k x (fun t h=>ht t (List.mem_append_right _ h)),hx2] at h2
   obtain ⟨ti,hti,hshp⟩:=Q2l hsh
   obtain ⟨dd,hdd,h3⟩:=Q22 hTI hti
   rw [hshp] at h3
   have:dd=.slice e:=by cases dd <;> simp [Q1q] at h3 <;> simp [h3]
   subst this
   obtain ⟨ti',hti',hshp'⟩:=Q2l hsh'
   obtain ⟨dd',hdd',h3'⟩:=Q22 hTI hti'
   rw [hshp'] at h3'
   have:dd'=.int kk:=by cases dd' <;> simp [Q1q] at h3' <;> simp [h3']
   subst this
   obtain ⟨ii,hii,hisz,hiby,hiz⟩:=Q21 hTI hei
   obtain ⟨_,_,hsv,hzl⟩:=hTI e ei hei
   obtain ⟨m,rfl⟩:=Int.eq_ofNat_of_zero_le hn0
   simp only [Int.toNat_natCast] at hbytes ⊢
   have hm2:m ≤ 140737488355328:=Nat.le_trans (Nat.le_mul_of_pos_right _ hb1) hbytes
   have fin:∀ (w':World) (v:Value),v.oneCell'=true→Q0i w' Sh (upd β k v) v (.rs k):=fun w' v hv=>by
    have e3:upd β k v k=v:=Q4m _ _ _
    have:=Q0i.rs (w:=w') (Sh:=Sh) (β:=upd β k v) k (by rw [e3]; exact hv)
    rwa [e3] at this
   rcases Nat.eq_zero_or_pos m with h0 | h0
   ·subst h0
    have hr:=Qam (P:=P) w t t' o.type e kk kn ii hdd hdd' hii
    exact ⟨w,.slice none 0 0,fun _=>False,run a w w _ (by rw [h1.nils_inv,h2.int_inv]; exact hr),Fr.refl _ w,.inl ⟨rfl,rfl⟩,fun b hb=>hb.elim,fin _ _ rfl⟩
   ·have hr:=Qal (P:=P) w t t' o.type e kk kn ii (toV ei.zero) hdd hdd' hii hiz (by rw [hisz]; exact hs1) m h0 (by omega) (by rw [hiby]; omega)
    have hge:=grownCap_ge w m 0 e
    have hz1:=Qaj hpz hsv
    have hcsz:(Builtin.zeroCells (toV ei.zero).cells m ++ Builtin.zeroCells (toV ei.zero).cells (grownCap w m 0 e - m)).size=grownCap w m 0 e:=by
     rw [Array.size_append,size_zeroCells,size_zeroCells,hz1]
     simp; omega
    refine ⟨w.drew.alloc (.cells (Builtin.zeroCells (toV ei.zero).cells m ++ Builtin.zeroCells (toV ei.zero).cells (grownCap w m 0 e - m)) e),.slice (some ⟨w.heap.size,0,none⟩) m (grownCap w m 0 e),fun b=>b=w.heap.size,run a w _ _ (by rw [h1.nils_inv,h2.int_inv]; exact hr),⟨rfl,rfl,rfl,by simp,fun q hq _=>heap_alloc_old w.drew _ q hq⟩,.inr ⟨w.heap.size,grownCap w m 0 e,e,Builtin.zeroCells (toV ei.zero).cells m ++ Builtin.zeroCells (toV ei.zero).cells (grownCap w m 0 e - m),⟨by rw [List.length_replicate],heap_alloc_new w.drew _,by rw [List.length_replicate]; exact hge,grownCap_le_maxLen w m 0 e (by simp only [maxLen]; omega),hcsz,fun y hy=>?_,fun i hi=>?_,rfl⟩⟩,fun b hb=>⟨.inr (by omega),by subst hb; simp⟩,fin _ _ rfl⟩
    ·rw [List.eq_of_mem_replicate hy]
     exact Qai hpz
    ·rw [List.length_replicate] at hi
     have e1:av (List.replicate m ei.zero) i=ei.zero:=by simp [av,List.getD_eq_getElem?_getD,hi]
     have e2:(Builtin.zeroCells (toV ei.zero).cells m ++ Builtin.zeroCells (toV ei.zero).cells (grownCap w m 0 e - m)).getD i undef=toV ei.zero:=by
      rw [hz1,Array.getD_eq_getD_getElem?,Array.getElem?_append_left (by rw [size_zeroCells]; simpa using hi)]
      simp [Builtin.zeroCells,hi,Nat.mod_one]
     rw [e1,e2]
     exact Q1y _ _ _ hsv
  ·exact .none
 ·exact .none

theorem Qao {x:AV} (h:plain x=true):Q5v 1 x=true:=by simp [Q5v,Qai h,h]
theorem Q0l.oslR {w:World} {Sh S:Nat→Prop} {v:Value} {xs:List AV} (h:Q0l w Sh S v xs):Q6a w Sh S v xs 1:=by
 rcases h with ⟨rfl,rfl⟩ | ⟨g,c,e,cur,h⟩
 ·exact .inl ⟨rfl,rfl⟩
 ·refine .inr ⟨g,c,e,cur,fun _ _ _=>False,h.hv,h.hg,h.hc,h.hm,by rw [h.hs,Nat.mul_one],fun i j hi hj=>?_,h.hSg,fun _ _ _ _ _ h=>h.elim,fun _ _ _ _ _ _ _ _ _ h=>h.elim⟩
  have e1:=h.h1 _ (Q5x hi)
  rw [e1] at hj ⊢
  have:j=0:=by simp at hj; exact hj
  subst this
  rw [Nat.mul_one,Nat.add_zero]
  exact .val _ _ _ (h.h i hi)
theorem Q04.rowY {w:World} {Sh S:Nat→Prop} {v:Value} {xs:List AV} (h:Q04 w Sh S v (.osl xs)) (hp:∀ x ∈ xs,Am.plain x=true):Q0l w Sh S v xs:=by
 rcases h.oslR (sz:=1) (fun x hx=>by rw [Qai (hp x hx)]; rfl) with h | ⟨g,c,e,cur,Si,hv,hg,hc,hm,hcs,h,hSg,_,_⟩
 ·exact .inl h
 ·refine .inr ⟨g,c,e,cur,hv,hg,hc,hm,by rw [hcs,Nat.mul_one],fun x hx=>Qai (hp x hx),fun i hi=>?_,hSg⟩
  have hpl:=hp _ (Q5x hi)
  have e1:=Qai hpl
  have:=h i 0 hi (by rw [e1]; exact Nat.zero_lt_one)
  rw [e1,Nat.mul_one,Nat.add_zero] at this
  exact Q04.plain this hpl

def Qap:AV→Option (List AV)
 | .sl ys=>some ys
 | .nils=>some []
 | _=>none
def Qaq (TI:Nat→Option Q1r) (nt:Nat) (o:Oper) (σ:Q0d) (t:Nat) (s x:Operand) (k:Nat):Option Ev :=
 match shp TI t,o.dst,opv σ s with
 | some (.slice e),some d,.rs id =>
  match TI e,σ.O id,Qap (opv σ x) with
  | some ei,some (.ary xs),some ys =>
   bif Nat.blt d nt && Nat.beq ei.size 1 && Nat.ble 1 ei.bytes then
    some ⟨⟨opr s ++ opr x,[id]⟩,⟨[(d,.rs k)],Q4o k (.ary (xs ++ ys)) [id],[k]⟩,[(∀ y ∈ xs ++ ys,plain y=true)∧(xs.length + ys.length) * ei.bytes ≤ 140737488355328]⟩
   else none
  | _,_,_=>none
 | _,_,_=>none
theorem Qar {TI:Nat→Option Q1r} (hTI:Q20 P TI) (t:Nat) (s x:Operand) (k:Nat) (ho:o.op=.call { callee:=.builtin .append,args:=#[s,x],argTypes:=#[t,t] }) :
  Q2o P c o σ (Qaq TI c.nt o σ t s x k):=by
 have run:∀ (a:Act) (w w':World) (u:Value),(Builtin.append_ #[t,t] o.type #[a.eval s,a.eval x]).run P w=.ok u w'→(execOp a.eval o).run P w=.ok (.value u) w':=by
  intro a w w' u h
  simp [execOp,ho,resolve,Sem.run_bind,Sem.run_pure,Result.andThen,invoke,builtin,h,pure]
 unfold Qaq
 split
 ·rename_i e d id hsh hd hx1
  split
  ·rename_i ei xs ys hei hO hx2
   refine .ite (fun hb=>?_) (fun _=>.none)
   simp only [Bool.and_eq_true] at hb
   obtain ⟨⟨hdn,hs1⟩,hb1⟩:=hb
   have hs1:=Nat.eq_of_beq_eq_true hs1
   intro ev he
   simp only [Option.some.injEq] at he
   subst he
   refine Q4x (x:=.rs k) hd (by simpa [Nat.blt_eq] using hdn) rfl (fun hobs τ ht hob hm hOk β fp Sh a w hs=>?_)
   obtain ⟨hpl,hbytes⟩:=hobs _ (List.mem_singleton.2 rfl)
   have h1:=hs.opd s; rw [Q2k s (fun t h=>ht t (List.mem_append_left _ h)),hx1] at h1
   have h2:=hs.opd x; rw [Q2k x (fun t h=>ht t (List.mem_append_right _ h))] at h2
   have hO':τ.O id=some (.ary xs):=(hob id (by simp)).trans hO
   have hrow:Q0l w Sh (fp id) (β id) xs:=hs.ob id _ hO'
   have e1:=h1.rs_inv
   have hnew:Q6e w Sh (fun _=>False) (a.eval x) ys ei.size:=by
    generalize opv σ x=z at h2 hx2
    cases z <;> simp only [Qap,Option.some.injEq,reduceCtorEq] at hx2
    ·subst hx2
     rw [h2.nils_inv]
     exact ⟨⟨none,0,rfl⟩,fun h=>by simp at h⟩
    ·subst hx2
     exact Q6g h2.sl_inv (fun y hy=>by rw [Qai (hpl y (List.mem_append_right _ hy)),hs1]; rfl)
   have hfree:∀ b,fp id b→Q4q τ fp k [id] b:=fun b hb=>⟨id,.inl (by simp),by rw [hO']; rfl,hb⟩
   have hsome:(τ.O id).isSome:=by rw [hO']; rfl
   obtain ⟨ti,hti,hshp⟩:=Q2l hsh
   obtain ⟨dd,hdd,h3⟩:=Q22 hTI hti
   rw [hshp] at h3
   have:dd=.slice e:=by cases dd <;> simp [Q1q] at h3 <;> simp [h3]
   subst this
   obtain ⟨ii,hii,_⟩:=Q21 hTI hei
   have fin:∀ (w':World) (v:Value),v.oneCell'=true→Q0i w' Sh (upd β k v) v (.rs k):=fun w' v hv=>by
    have e3:upd β k v k=v:=Q4m _ _ _
    have:=Q0i.rs (w:=w') (Sh:=Sh) (β:=upd β k v) k (by rw [e3]; exact hv)
    rwa [e3] at this
   rcases Nat.eq_zero_or_pos ys.length with h0 | h0
   ·have hys:ys=[]:=List.eq_nil_of_length_eq_zero h0
    subst hys
    obtain ⟨B,cp2,e2⟩:=hnew.form
    have hform:∃ A n cp,β id=.slice A n cp∧n ≤ cp:=by
     rcases hrow with ⟨h,_⟩ | ⟨g,cp,e',cur,h⟩
     ·exact ⟨none,0,0,h,Nat.le_refl _⟩
     ·exact ⟨_,_,cp,h.hv,h.hc⟩
    obtain ⟨A,n,cp,e3,hle⟩:=hform
    have hr:=Q69 (P:=P) w t o.type e ii hdd hii A B n cp cp2 hle
    refine ⟨w,β id,fp id,run a w w _ (by rw [e1,e2,e3]; exact hr),Fr.refl _ _,?_,fun b hb=>⟨.inl (hfree b hb),(hs.fb id b hsome hb).2.1⟩,fin _ _ hrow.one⟩
    show Q0l w Sh _ _ (xs ++ [])
    rw [List.append_nil]; exact hrow
   ·obtain ⟨b,o',cp,f,Sy,e2,hcell,hrep,hSy,hdy⟩:=hnew.els h0
    have hlen:xs.length + ys.length ≤ 140737488355328:=Nat.le_trans (Nat.le_mul_of_pos_right _ (Nat.le_of_ble_eq_true hb1)) hbytes
    obtain ⟨v',w',hr,hown,hfr,hone⟩:=Q6b hTI hsh hei (by omega) (by rw [hs1]; exact hrow.oslR)
     (fun bb hb=>⟨(hs.fb id bb hsome hb).1,(hs.fb id bb hsome hb).2.1⟩) (fun bb hbb=>(hs.shl bb hbb).1) (cp:=cp) f Sy hcell hrep hSy hdy
     (fun bb hb=>hb.elim) (fun y hy=>by rw [hs1]; exact Qao (hpl y hy)) h0 hbytes (by omega) o.type
    refine ⟨w',v',_,run a w w' v' (by rw [e1,e2]; exact hr),hfr.mono (fun bb _ h=>hfree bb h),Q04.rowY hown hpl,fun bb hbb=>?_,fin _ _ hone⟩
    rcases hbb with h | h | h
    ·exact ⟨.inl (hfree bb h),Nat.lt_of_lt_of_le (hs.fb id bb hsome h).2.1 hfr.size⟩
    ·exact h.elim
    ·exact ⟨.inr h.1,h.2⟩
  ·exact .none
 ·exact .none

def Qas (P:Program) (f:FuncId) (n:Int):Prop :=
 ∀ (w:World) (Sh:Nat→Prop),Q02 w Sh→Calls P f #[.slice none 0 0,.int .i64 n] w fun e w'=>∃ (v:Value) (S':Nat→Prop),e=.returned v∧Fr (fun _=>False) w w'∧Q0l w' Sh S' v []∧∀ b,S' b→w.heap.size ≤ b∧b < w'.heap.size

def Qat (nt:Nat) (o:Oper) (σ:Q0d) (f:FuncId) (x y:Operand) (k:Nat) (P:Program):Option Ev :=
 match opv σ x,opv σ y,o.dst with
 | .nils,.int .i64 n,some d=>bif Nat.blt d nt then some ⟨⟨opr x ++ opr y,[]⟩,⟨[(d,.rs k)],Q4o k (.ary []) [],[k]⟩,[Qas P f n,Q80 P f]⟩ else none
 | _,_,_=>none
theorem Qau (f:FuncId) (x y:Operand) (ho:Q7z P o (.func f) [x,y]) (k:Nat):Q2o P c o σ (Qat c.nt o σ f x y k P):=by
 unfold Qat
 split
 ·rename_i n d hx hy hd
  refine .ite (fun hdn=>?_) (fun _=>.none)
  have hdn:d < c.nt:=by simpa [Nat.blt_eq] using hdn
  intro ev he
  simp only [Option.some.injEq] at he
  subst he
  intro hobs τ hag hfr a w hsr K Q hK
  obtain ⟨β,fp,Sh,hs⟩:=hsr
  have hsound:Qas P f n:=hobs _ List.mem_cons_self
  have hbody:Q80 P f:=hobs _ (List.mem_cons_of_mem _ List.mem_cons_self)
  obtain ⟨hm,hO⟩:=hfr k (by simp)
  have h1:=hs.opd x; rw [Q2k x (fun t h=>hag.1 t (List.mem_append_left _ h)),hx] at h1
  have h2:=hs.opd y; rw [Q2k y (fun t h=>hag.1 t (List.mem_append_right _ h)),hy] at h2
  have hcall:=hsound w Sh hs.shok
  unfold Oper.wp
  rw [Q81 ho (first:=#[]) (caps:=#[]) rfl hbody]
  show Calls P f (#[] ++ ([x,y].map a.eval).toArray ++ #[]) w _
  have harr:#[] ++ ([x,y].map a.eval).toArray ++ #[]=#[.slice none 0 0,.int .i64 n]:=by
   simp [h1.nils_inv,h2.int_inv]
  rw [harr]
  refine hcall.mono ?_
  rintro e w' ⟨v,S',rfl,hfrm,hrow,hS'⟩
  show K (a.put o.dst v) w'
  rw [hd]
  have h3:=(hs.reset k [] (.ary []) v S' (.inl hm) (hfrm.mono (fun _ _ h=>h.elim)) (show Q0m w' Sh (upd β k v) S' v (.ary []) from hrow) (fun b hb=>⟨.inr (hS' b hb).1,(hS' b hb).2⟩)).put d hdn v (.rs k) (by
   have e3:upd β k v k=v:=Q4m _ _ _
   have:=Q0i.rs (w:=w') (Sh:=Sh) (β:=upd β k v) k (by rw [e3]; exact hrow.one)
   rwa [e3] at this)
  exact hK _ _ ⟨_,_,Sh,h3⟩
 ·exact .none
end
end Go.Am
