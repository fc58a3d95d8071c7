/- What a program's table tells of types; how the state goes on when a value is put into a slot; reading and writing of variables. -/
import Derived.Test.YtifijafaaljamaaDoorAmC
import Derived.Laws.Cells
import Derived.Laws.CopyRow
import Derived.RowKit3
set_option linter.unusedSimpArgs false
set_option linter.unusedVariables false
namespace Go.Am
open Go.RowKit

inductive Shp where
 | struct (fs:List (Nat × Nat))
 | slice (e:Nat)
 | array (n e:Nat)
 | int (k:IntKind)
 | bool
 | string
 | pointer (e:Nat)
 | other
 deriving DecidableEq,Inhabited

def Q1q:TypeDesc→Shp
 | .struct fs=>.struct (fs.toList.map fun f=>(f.offset,f.type))
 | .slice e=>.slice e
 | .array n e=>.array n e
 | .int k=>.int k
 | .bool=>.bool
 | .string=>.string
 | .pointer e=>.pointer e
 | _=>.other

structure Q1r where
 shp:Shp
 size:Nat
 bytes:Nat
 zero:AV
 deriving Inhabited

def Q1s:Value→Bool
 | .nilFunc=>true
 | _=>false
theorem Q1t {v:Value} (h:Q1s v=true):v=.nilFunc:=by cases v <;> first | rfl | cases h
def Q1u:AV→Value
 | .int k n=>.int k n
 | .bool b=>.bool b
 | .str s=>.string s
 | .nils=>.slice none 0 0
 | .nilp=>.pointer none
 | .raw v=>v
 | _=>undef
def Q1v:AV→Bool
 | .int _ _ | .bool _ | .str _ | .nils | .nilp=>true
 | .raw v=>Q1s v
 | _=>false
def toV:AV→Value
 | .agg cs=>.agg (cs.map Q1u).toArray
 | x=>Q1u x
def Q1w:AV→Bool
 | .agg cs=>cs.all Q1v
 | x=>Q1v x

theorem Q1x (w:World) (Sh:Nat→Prop) (x:AV) (h:Q1v x=true):Q03 w Sh (Q1u x) x:=by
 cases x <;> simp [Q1v] at h <;> first | exact .int _ _ | exact .bool _ | exact .str _ | exact .nils | exact .nilp | exact .raw _ (by rw [Q1t h]; rfl)
theorem Q1y (w:World) (Sh:Nat→Prop) (x:AV) (h:Q1w x=true):Q03 w Sh (toV x) x:=by
 cases x with
 | agg cs =>
  simp only [Q1w,List.all_eq_true] at h
  refine .agg _ _ (by simp) (fun i hi=>?_)
  have e:(List.map Q1u cs).toArray.getD i undef=Q1u (cs[i]):=by simp [Array.getD,hi]
  have e2:av cs i=cs[i]:=by simp [av,List.getD_eq_getElem?_getD,hi]
  rw [e,e2]
  exact Q1x w Sh _ (h _ (List.getElem_mem hi))
 | _=>simp only [Q1w] at h; simp only [toV]; exact Q1x w Sh _ h

def Q1z (P:Program) (t:Nat) (i:Q1r):Prop :=
 (P.info? t).map (fun x=>(x.size,x.bytes,x.zero))=some (i.size,i.bytes,some (toV i.zero))∧(P.underlying t).map Q1q=some i.shp∧Q1w i.zero=true∧(cellsOf i.zero).length=i.size

def Q20 (P:Program) (TI:Nat→Option Q1r):Prop:=∀ t i,TI t=some i→Q1z P t i

section facts
variable {P:Program} {TI:Nat→Option Q1r} (hTI:Q20 P TI)
include hTI
theorem Q21 {t:Nat} {i:Q1r} (h:TI t=some i):∃ x,P.info? t=some x∧x.size=i.size∧x.bytes=i.bytes∧x.zero=some (toV i.zero):=by
 have:=(hTI t i h).1
 cases hx:P.info? t with
 | none=>rw [hx] at this; cases this
 | some x =>
  rw [hx] at this
  simp only [Option.map_some,Option.some.injEq,Prod.mk.injEq] at this
  exact ⟨x,rfl,this⟩
theorem Q22 {t:Nat} {i:Q1r} (h:TI t=some i):∃ d,P.underlying t=some d∧Q1q d=i.shp:=by
 have:=(hTI t i h).2.1
 cases hx:P.underlying t with
 | none=>rw [hx] at this; cases this
 | some d=>rw [hx] at this; exact ⟨d,rfl,by simpa using this⟩
theorem Q23 {t:Nat} {i:Q1r} (h:TI t=some i) (w:World):∃ x,(typeInfo t).run P w=.ok x w∧x.size=i.size∧x.bytes=i.bytes∧x.zero=some (toV i.zero):=by
 obtain ⟨x,hx,h2⟩:=Q21 hTI h
 refine ⟨x,?_,h2⟩
 simp [typeInfo,program,Sem.run_bind,Sem.run,Result.andThen,hx,pure]
theorem Q24 {t:Nat} {i:Q1r} (h:TI t=some i) (w:World):(sizeOf t).run P w=.ok i.size w:=by
 obtain ⟨x,hx,h2,_⟩:=Q23 hTI h w
 simp [sizeOf,Sem.run_bind,hx,Result.andThen,h2,pure,Sem.run]
theorem Q25 {t:Nat} {i:Q1r} (h:TI t=some i) (w:World):(zeroValue t).run P w=.ok (toV i.zero) w:=by
 obtain ⟨x,hx,_,_,h2⟩:=Q23 hTI h w
 simp [zeroValue,Sem.run_bind,hx,Result.andThen,h2,pure,Sem.run]
theorem Q26 {t:Nat} {i:Q1r} (h:TI t=some i) (w:World):∃ d,(underlying t).run P w=.ok d w∧Q1q d=i.shp:=by
 obtain ⟨d,hd,h2⟩:=Q22 hTI h
 exact ⟨d,run_underlying hd w,h2⟩
def Q27:Shp→Bool
 | .struct _ | .array _ _=>true
 | _=>false
omit hTI in
theorem Q28 (d:TypeDesc):(match d with | .struct _ | .array _ _=>true | _=>false)=Q27 (Q1q d):=by cases d <;> rfl
theorem Q29 {t:Nat} {i:Q1r} (h:TI t=some i) (w:World):(isAgg t).run P w=.ok (Q27 i.shp) w:=by
 obtain ⟨d,hd,h2⟩:=Q26 hTI h w
 simp only [isAgg,Sem.run_bind,hd,Result.andThen]
 rw [← h2]
 cases d <;> rfl
end facts

theorem Q2a (g o n:Nat):(⟨g,o,none⟩:Addr).add n=⟨g,o + n,none⟩:=by unfold Addr.add; split <;> simp_all

theorem Q2b {t d:Nat} (h:t ≠ d):Nat.beq t d=false:=by
 cases h':Nat.beq t d with
 | false=>rfl
 | true=>exact absurd (Nat.eq_of_beq_eq_true h') h
theorem Q2c {α:Type} (d:Nat) (x:α) (f:Nat→α) (t:Nat):Q0n [(d,x)] f t=if t=d then x else f t:=by
 unfold Q0n
 by_cases h:t=d
 ·subst h; simp
 ·rw [Q2b h,if_neg h]; rfl

theorem Q2d (a:Act) (d:Nat) (v:Value) (t:Nat) (hd:d < a.tmps.size):(a.put (some d) v).tmps.getD t undef=if t=d then v else a.tmps.getD t undef:=by
 simp only [Act.put,Array.getD_eq_getD_getElem?]
 by_cases h:t=d
 ·subst h; simp [hd]
 ·have h':d ≠ t:=fun e=>h e.symm
  rw [if_neg h,Array.getElem?_setIfInBounds_ne h']

theorem SR.put {c:Ctx} {β:Nat→Value} {fp:Nat→Nat→Prop} {Sh:Nat→Prop} {σ:Q0d} {a:Act} {w:World} (h:SR c β fp Sh σ a w) (d:Nat) (hd:d < c.nt) (v:Value) (x:AV) (hx:Q0i w Sh β v x) :
  SR c β fp Sh ⟨Q0n [(d,x)] σ.T,σ.O⟩ (a.put (some d) v) w where
 df:=h.df
 sz:=by simpa [Act.put] using h.sz
 tm:=fun t=>by
  rw [Q2d a d v t (by rw [h.sz]; exact hd)]
  show Q0i w Sh β _ (Q0n [(d,x)] σ.T t)
  rw [Q2c]
  split
  ·exact hx
  ·exact h.tm t
 ob:=h.ob
 dj:=h.dj
 fb:=h.fb
 shl:=h.shl
 sh0:=h.sh0
 fr:=h.fr
 pn:=h.pn

theorem SR.world {c:Ctx} {β:Nat→Value} {fp:Nat→Nat→Prop} {Sh:Nat→Prop} {σ:Q0d} {a:Act} {w w':World} (h:SR c β fp Sh σ a w) (hw:Fr (fun _=>False) w w'):SR c β fp Sh σ a w':=by
 have hS:∀ b,Sh b→w'.heap[b]?=w.heap[b]?:=fun b hb=>hw.block b (h.shl b hb).1 id
 exact {
  df:=h.df
  sz:=h.sz
  tm:=fun t=>(h.tm t).mono hS (fun _ hb=>hb) (fun _ _=>rfl)
  ob:=fun id o ho=>(h.ob id o ho).mono hS (fun b hb=>hw.block b (h.fb id b (by simp [ho]) hb).2.1 (fun h=>h)) (fun _ hb=>hb) (fun _ _=>rfl)
  dj:=h.dj
  fb:=fun id b hi hb=>⟨(h.fb id b hi hb).1,Nat.lt_of_lt_of_le (h.fb id b hi hb).2.1 hw.size,(h.fb id b hi hb).2.2⟩
  shl:=fun b hb=>⟨Nat.lt_of_lt_of_le (h.shl b hb).1 hw.size,(h.shl b hb).2⟩
  sh0:=h.sh0
  fr:=h.fr.trans (hw.mono (fun _ _ h=>h.elim))
  pn:=h.pn }

def Q2e:Value→AV
 | .int k n=>.int k n
 | .bool b=>.bool b
 | .string s=>.str s
 | .slice none 0 0=>.nils
 | .pointer none=>.nilp
 | .nilIface=>.err false
 | _=>.undef
theorem Q2f (w:World) (Sh:Nat→Prop) (v:Value):Q03 w Sh v (Q2e v):=by
 unfold Q2e
 split <;> first | exact .int _ _ | exact .bool _ | exact .str _ | exact .nils | exact .nilp | exact .err _ _ rfl | exact .undef _
def Q2g:Value→AV
 | .agg c=>.agg (c.toList.map Q2e)
 | v=>Q2e v
theorem Q2h (v:Value):refs (Q2e v)=[]:=by unfold Q2e; split <;> simp [refs]
theorem Q2i (v:Value):refs (Q2g v)=[]:=by
 unfold Q2g
 split
 ·rename_i c
  rw [refs]
  induction c.toList with
  | nil=>rfl
  | cons x xs ih=>rw [List.map_cons,Q0e,Q2h,ih]; rfl
 ·exact Q2h _
theorem Q2j (w:World) (Sh:Nat→Prop) (v:Value):Q03 w Sh v (Q2g v):=by
 unfold Q2g
 split
 ·rename_i c
  refine .agg c _ (by simp) (fun i hi=>?_)
  have hi:i < c.size:=by simpa using hi
  have e:av (c.toList.map Q2e) i=Q2e (c.getD i undef):=by simp [av,List.getD_eq_getElem?_getD,Array.getD_eq_getD_getElem?,hi]
  rw [e]
  exact Q2f _ _ _
 ·exact Q2f _ _ _

def opv (σ:Q0d):Operand→AV
 | .tmp t=>σ.T t
 | .const v=>Q2g v
 | .global _=>.undef
 | .func f=>.fn f []
def opr:Operand→List Nat
 | .tmp t=>[t]
 | _=>[]
theorem SR.opd {c:Ctx} {β:Nat→Value} {fp:Nat→Nat→Prop} {Sh:Nat→Prop} {σ:Q0d} {a:Act} {w:World} (h:SR c β fp Sh σ a w) (x:Operand):Q0i w Sh β (a.eval x) (opv σ x):=by
 cases x with
 | tmp t=>exact h.tm t
 | const v=>exact .base _ _ (Q2j w Sh v)
 | global g=>exact .base _ _ (.undef _)
 | func f=>exact .base _ _ (.fn f #[] [] rfl (fun i hi=>absurd hi (by simp)))
theorem Q2k {τ σ:Q0d} (x:Operand) (h:∀ t ∈ opr x,τ.T t=σ.T t):opv τ x=opv σ x:=by
 cases x with
 | tmp t=>exact h t (by simp [opr])
 | _=>rfl

theorem Q0i.int_inv {w:World} {Sh:Nat→Prop} {β:Nat→Value} {v:Value} {k:IntKind} {n:Int} (h:Q0i w Sh β v (.int k n)):v=.int k n:=by
 cases h with | base _ _ h=>cases h; rfl
theorem Q0i.bool_inv {w:World} {Sh:Nat→Prop} {β:Nat→Value} {v:Value} {b:Bool} (h:Q0i w Sh β v (.bool b)):v=.bool b:=by
 cases h with | base _ _ h=>cases h; rfl
theorem Q0i.str_inv {w:World} {Sh:Nat→Prop} {β:Nat→Value} {v:Value} {s:ByteArray} (h:Q0i w Sh β v (.str s)):v=.string s:=by
 cases h with | base _ _ h=>cases h; rfl
theorem Q0i.nils_inv {w:World} {Sh:Nat→Prop} {β:Nat→Value} {v:Value} (h:Q0i w Sh β v .nils):v=.slice none 0 0:=by
 cases h with | base _ _ h=>cases h; rfl
theorem Q0i.nilp_inv {w:World} {Sh:Nat→Prop} {β:Nat→Value} {v:Value} (h:Q0i w Sh β v .nilp):v=.pointer none:=by
 cases h with | base _ _ h=>cases h; rfl
theorem Q0i.rs_inv {w:World} {Sh:Nat→Prop} {β:Nat→Value} {v:Value} {id:Nat} (h:Q0i w Sh β v (.rs id)):v=β id:=by
 cases h with
 | base _ _ h=>cases h
 | rs id h=>rfl
theorem Q0i.ra_inv {w:World} {Sh:Nat→Prop} {β:Nat→Value} {v:Value} {id off:Nat} (h:Q0i w Sh β v (.ra id off)):∃ g,β id=.pointer (some ⟨g,0,none⟩)∧v=.pointer (some ⟨g,off,none⟩):=by
 cases h with
 | base _ _ h=>cases h
 | ra id off g h=>exact ⟨g,h,rfl⟩
theorem Q0i.cut_inv {w:World} {Sh:Nat→Prop} {β:Nat→Value} {v:Value} {id lo:Nat} (h:Q0i w Sh β v (.cut id lo)):∃ g n c o,β id=.slice (some ⟨g,0,none⟩) n c∧lo ≤ n∧n ≤ c∧((lo < c→o=lo)∧o ≤ c)∧v=.slice (some ⟨g,o,none⟩) (n - lo) (c - lo):=by
 cases h with
 | base _ _ h=>cases h
 | cut id lo g n c o h hl hn ho=>exact ⟨g,n,c,o,h,hl,hn,ho,rfl⟩
theorem Q0i.ea_inv {w:World} {Sh:Nat→Prop} {β:Nat→Value} {v:Value} {id sz i off:Nat} (h:Q0i w Sh β v (.ea id sz i off)):∃ g n c,β id=.slice (some ⟨g,0,none⟩) n c∧v=.pointer (some ⟨g,i * sz + off,none⟩):=by
 cases h with
 | base _ _ h=>cases h
 | ea id sz i off g n c h=>exact ⟨g,n,c,h,rfl⟩
theorem Q0i.agg_inv {w:World} {Sh:Nat→Prop} {β:Nat→Value} {v:Value} {cs:List AV} (h:Q0i w Sh β v (.agg cs)):∃ c,v=.agg c∧c.size=cs.length∧∀ i,i < cs.length→Q0i w Sh β (c.getD i undef) (av cs i):=by
 cases h with
 | base _ _ h=>cases h with | agg c cs hs h=>exact ⟨c,rfl,hs,fun i hi=>.base _ _ (h i hi)⟩
 | agg c cs hs h=>exact ⟨c,rfl,hs,h⟩
theorem Q0i.tup_inv {w:World} {Sh:Nat→Prop} {β:Nat→Value} {v:Value} {cs:List AV} (h:Q0i w Sh β v (.tup cs)):∃ c,v=.tuple c∧c.size=cs.length∧∀ i,i < cs.length→Q0i w Sh β (c.getD i undef) (av cs i):=by
 cases h with
 | base _ _ h=>cases h with | tup c cs hs h=>exact ⟨c,rfl,hs,fun i hi=>.base _ _ (h i hi)⟩
 | tup c cs hs h=>exact ⟨c,rfl,hs,h⟩
theorem Q0i.fnb_inv {w:World} {Sh:Nat→Prop} {β:Nat→Value} {v:Value} {f:FuncId} {cs:List AV} (h:Q0i w Sh β v (.fnb f cs)):∃ c,v=.func (.func f) c #[]∧c.size=cs.length∧∀ i,i < cs.length→Q03 w Sh (c.getD i undef) (av cs i):=by
 cases h with
 | base _ _ h=>cases h with | fnb f c cs hs h=>exact ⟨c,rfl,hs,h⟩
theorem Q0i.fn_inv {w:World} {Sh:Nat→Prop} {β:Nat→Value} {v:Value} {f:FuncId} {cs:List AV} (h:Q0i w Sh β v (.fn f cs)):∃ c,v=.func (.func f) #[] c∧c.size=cs.length∧∀ i,i < cs.length→Q0i w Sh β (c.getD i undef) (av cs i):=by
 cases h with
 | base _ _ h=>cases h with | fn f c cs hs h=>exact ⟨c,rfl,hs,fun i hi=>.base _ _ (h i hi)⟩
 | fn f c cs hs h=>exact ⟨c,rfl,hs,h⟩
theorem Q0i.sl_inv {w:World} {Sh:Nat→Prop} {β:Nat→Value} {v:Value} {xs:List AV} (h:Q0i w Sh β v (.sl xs)):Q03 w Sh v (.sl xs):=by
 cases h with | base _ _ h=>exact h
theorem Q0i.ptr_inv {w:World} {Sh:Nat→Prop} {β:Nat→Value} {v:Value} {cs:List AV} {off:Nat} (h:Q0i w Sh β v (.ptr cs off)) :
  ∃ (b o:Nat) (f:Nat→Value),v=.pointer (some ⟨b,o + off,none⟩)∧Sh b∧(∀ j,j < cs.length→w.cell? ⟨b,o + j,none⟩=some (f j))∧∀ j,j < cs.length→Q03 w Sh (f j) (av cs j):=by
 cases h with | base _ _ h=>cases h with | ptr b o cs off f hb hm h=>exact ⟨b,o,f,rfl,hb,hm,h⟩

theorem Q0i.cells {w:World} {Sh:Nat→Prop} {β:Nat→Value} {v:Value} {x:AV} (h:Q0i w Sh β v x) (hx:∀ cs,x ≠ .tup cs) (hu:x ≠ .undef) :
  v.cells.size=(cellsOf x).length∧∀ i,i < (cellsOf x).length→Q0i w Sh β (v.cells.getD i undef) (av (cellsOf x) i):=by
 have one:∀ v:Value,v.oneCell'=true→Q0i w Sh β v x→cellsOf x=[x]→v.cells.size=(cellsOf x).length∧∀ i,i < (cellsOf x).length→Q0i w Sh β (v.cells.getD i undef) (av (cellsOf x) i):=by
  intro v hv h hc
  have hvc:v.cells=#[v]:=by cases v <;> first | rfl | (simp [Value.oneCell'] at hv)
  rw [hvc,hc]
  refine ⟨rfl,fun i hi=>?_⟩
  have:i=0:=by simpa using hi
  subst this
  exact h
 cases x with
 | agg cs=>obtain ⟨c,rfl,hs,hh⟩:=h.agg_inv; exact ⟨hs,hh⟩
 | tup cs=>exact absurd rfl (hx cs)
 | undef=>exact absurd rfl hu
 | int k n=>have:=h.int_inv; subst this; exact one _ rfl h rfl
 | bool b=>have:=h.bool_inv; subst this; exact one _ rfl h rfl
 | str s=>have:=h.str_inv; subst this; exact one _ rfl h rfl
 | nils=>have:=h.nils_inv; subst this; exact one _ rfl h rfl
 | nilp=>have:=h.nilp_inv; subst this; exact one _ rfl h rfl
 | sl xs=>have h':=h.sl_inv; refine one v ?_ h rfl; cases h' <;> rfl
 | ptr cs off=>obtain ⟨b,o,f,rfl,_⟩:=h.ptr_inv; exact one _ rfl h rfl
 | osl xs=>cases h with | base _ _ h=>cases h
 | optr cs=>cases h with | base _ _ h=>cases h
 | rs id =>
  refine one v ?_ h rfl
  cases h with
  | base _ _ h=>cases h
  | rs id h=>exact h
 | ra id off=>obtain ⟨g,_,rfl⟩:=h.ra_inv; exact one _ rfl h rfl
 | ea id sz i off=>obtain ⟨g,n,c,_,rfl⟩:=h.ea_inv; exact one _ rfl h rfl
 | cut id lo=>obtain ⟨g,n,c,o,_,_,_,_,rfl⟩:=h.cut_inv; exact one _ rfl h rfl
 | fn f cs=>obtain ⟨c,rfl,_⟩:=h.fn_inv; exact one _ rfl h rfl
 | fnb f cs=>obtain ⟨c,rfl,_⟩:=h.fnb_inv; exact one _ rfl h rfl
 | nilq xs =>
  refine one v ?_ h rfl
  cases h with | base _ _ h=>cases h; rfl
 | raw v =>
  refine one _ ?_ h rfl
  cases h with | base _ _ h=>cases h; assumption
 | err b =>
  refine one _ ?_ h rfl
  cases h with | base _ _ h=>cases h with | err b v h=>exact Q01 h

end Go.Am
