/- Arrays of two integers: made of parts, compared. -/
import Derived.Test.YtifijafaaljamaaDoorAmI
set_option linter.unusedSimpArgs false
set_option linter.unusedVariables false
namespace Go.Am
open Go.RowKit

section
variable {P:Program} {c:Ctx} {o:Oper} {σ:Q0d}

theorem Q8j {TI:Nat→Option Q1r} (hTI:Q20 P TI) {e:Nat} {k:IntKind} (he:shp TI e=some (.int k)) (cs:Array Value) (i:Nat) (v:Value) (hc:cs[i]?=some v) (w:World):(part e cs i).run P w=.ok v w:=by
 obtain ⟨ei,hei,he⟩:=Q2l he
 have h1:=Q29 hTI hei w
 rw [he] at h1
 simp only [part,Sem.run_bind,h1,Result.andThen,Q27,Bool.false_eq_true,if_false,hc,pure,Sem.run]
theorem Q8k {TI:Nat→Option Q1r} (hTI:Q20 P TI) {e:Nat} {k:IntKind} (he:shp TI e=some (.int k)) (n:Nat) (a b:Int) (w:World):(Op.equalIn (n + 1) e (.int k a) (.int k b)).run P w=.ok (a == b) w:=by
 obtain ⟨ei,hei,he⟩:=Q2l he
 obtain ⟨d,hd,h2⟩:=Q26 hTI hei w
 rw [he] at h2
 have:d=.int k:=by cases d <;> simp [Q1q] at h2 <;> simp [h2]
 subst this
 simp only [Op.equalIn,Sem.run_bind,hd,Result.andThen,if_true]
 rfl
theorem Q8l {TI:Nat→Option Q1r} (hTI:Q20 P TI) {t e:Nat} {ei:Q1r} (ht:shp TI t=some (.array 2 e)) (hei:TI e=some ei) (hes:ei.shp=.int .i64) (h1:ei.size=1) (a0 a1 b0 b1:Int) (w:World) :
  (Op.equal t (.agg #[.int .i64 a0,.int .i64 a1]) (.agg #[.int .i64 b0,.int .i64 b1])).run P w=.ok (a0 == b0 && a1 == b1) w:=by
 have he:shp TI e=some (.int .i64):=by simp [shp,hei,hes]
 obtain ⟨i,hi,ht⟩:=Q2l ht
 obtain ⟨d,hd,h2⟩:=Q26 hTI hi w
 rw [ht] at h2
 have:d=.array 2 e:=by cases d <;> simp [Q1q] at h2 <;> simp [h2]
 subst this
 have hz:=Q24 hTI hei w
 rw [h1] at hz
 have p0:∀ x y:Int,(part e #[Value.int .i64 x,Value.int .i64 y] (0 * 1)).run P w=.ok (.int .i64 x) w:=fun x y=>Q8j hTI he _ _ _ rfl w
 have p1:∀ x y:Int,(part e #[Value.int .i64 x,Value.int .i64 y] (1 * 1)).run P w=.ok (.int .i64 y) w:=fun x y=>Q8j hTI he _ _ _ rfl w
 have q:∀ x y:Int,(Op.equalIn (9998 + 1) e (.int .i64 x) (.int .i64 y)).run P w=.ok (x == y) w:=fun x y=>Q8k hTI he 9998 x y w
 unfold Op.equal
 rw [show Op.maxDepth=(9998 + 1) + 1 from rfl]
 unfold Op.equalIn
 simp only [Sem.run_bind,hd,Result.andThen,hz]
 simp only [Std.Legacy.Range.forIn_eq_forIn_range',Std.Legacy.Range.size,Nat.sub_zero,Nat.add_one_sub_one,Nat.div_one,List.range']
 simp only [List.forIn_cons,List.forIn_nil,Sem.run_bind,p0,Result.andThen,q]
 have p1':∀ x y:Int,(part e #[Value.int .i64 x,Value.int .i64 y] 1).run P w=.ok (.int .i64 y) w:=fun x y=>Q8j hTI he _ _ _ rfl w
 have q':∀ x y:Int,(Op.equalIn 9999 e (.int .i64 x) (.int .i64 y)).run P w=.ok (x == y) w:=q
 cases h0:a0 == b0
 ·simp [Sem.run_pure,pure,Sem.run]
 ·cases h3:a1 == b1 <;> simp [Sem.run_pure,pure,Sem.run,p1',q',Result.andThen,h3,Sem.run_bind]

def Q8m (TI:Nat→Option Q1r) (P:Program) (nt:Nat) (o:Oper) (σ:Q0d) (op:BinOp) (t:Nat) (x y:Operand):Option Ev :=
 match opv σ x,opv σ y,shp TI t with
 | .agg [.int .i64 a0,.int .i64 a1],.agg [.int .i64 b0,.int .i64 b1],some (.array 2 e) =>
  match TI e,op with
  | some ⟨.int .i64,1,_,_⟩,.eql=>qv nt o (.bool (a0 == b0 && a1 == b1)) (opr x ++ opr y) [] [P.eqGuardType P.depth t=false]
  | some ⟨.int .i64,1,_,_⟩,.neq=>qv nt o (.bool (!(a0 == b0 && a1 == b1))) (opr x ++ opr y) [] [P.eqGuardType P.depth t=false]
  | _,_=>none
 | _,_,_=>none

theorem Q8n {w:World} {Sh:Nat→Prop} {β:Nat→Value} {v:Value} {a0 a1:Int} (h:Q0i w Sh β v (.agg [.int .i64 a0,.int .i64 a1])):v=.agg #[.int .i64 a0,.int .i64 a1]:=by
 have key:∀ (cc:Array Value),cc.size=2→(∀ i,i < 2→cc.getD i undef=(av [.int .i64 a0,.int .i64 a1] i |> Q1u))→cc=#[.int .i64 a0,.int .i64 a1]:=by
  intro cc hs hc
  apply Array.ext (by simpa using hs)
  intro i h1 h2
  have:=hc i (by simpa [hs] using h1)
  rw [Array.getD_eq_getD_getElem?,Array.getElem?_eq_getElem h1] at this
  simp only [Option.getD_some] at this
  rw [this]
  have hi:i < 2:=by simpa [hs] using h1
  rcases i with _ | _ | i
  ·rfl
  ·rfl
  ·omega
 cases h with
 | base _ _ h =>
  cases h with
  | agg cc cs hs h =>
   rw [key cc hs (fun i hi=>by
    have:=h i hi
    rcases i with _ | _ | i
    ·exact (Q0i.base (β:=β) _ _ this).int_inv
    ·exact (Q0i.base (β:=β) _ _ this).int_inv
    ·omega)]
 | agg cc cs hs h =>
  rw [key cc hs (fun i hi=>by
   have:=h i hi
   rcases i with _ | _ | i
   ·exact this.int_inv
   ·exact this.int_inv
   ·omega)]

theorem Q8o {TI:Nat→Option Q1r} (hTI:Q20 P TI) (op:BinOp) (t:Nat) (x y:Operand) (ty:TypeId) (ho:o.op=.binOp op t x y ty):Q2o P c o σ (Q8m TI P c.nt o σ op t x y):=by
 have opx:∀ {τ:Q0d},(∀ t ∈ opr x ++ opr y,τ.T t=σ.T t)→opv τ x=opv σ x:=fun ht=>Q2k x (fun t h=>ht t (List.mem_append_left _ h))
 have opy:∀ {τ:Q0d},(∀ t ∈ opr x ++ opr y,τ.T t=σ.T t)→opv τ y=opv σ y:=fun ht=>Q2k y (fun t h=>ht t (List.mem_append_right _ h))
 have guard:∀ (op:BinOp) (u v:Array Value) (w:World),P.eqGuardType P.depth t=false→(eqGuard op t x y (.agg u) (.agg v)).run P w=.ok () w:=by
  intro op u v w h
  unfold eqGuard
  cases op <;> simp [pure,Sem.run,Sem.run_bind,Result.andThen,program,h]
 unfold Q8m
 split
 ·rename_i a0 a1 b0 b1 e hx hy hsh
  split
  ·rename_i by1 z1 hei
   refine Q2p fun hobs τ ht _ β fp Sh a w hs=>?_
   have h1:=hs.opd x; rw [opx ht,hx] at h1
   have h2:=hs.opd y; rw [opy ht,hy] at h2
   have e1:=Q8n h1; have e2:=Q8n h2
   have hg:=hobs _ List.mem_cons_self
   refine ⟨.bool (a0 == b0 && a1 == b1),?_,.base _ _ (.bool _)⟩
   have hr:(binOp .eql t (.agg #[.int .i64 a0,.int .i64 a1]) (.agg #[.int .i64 b0,.int .i64 b1])).run P w=.ok (.bool (a0 == b0 && a1 == b1)) w:=by
    simp only [binOp,Sem.run_bind,Q8l hTI hsh hei rfl rfl,Result.andThen]; rfl
   simp only [execOp,ho,Sem.run_bind,e1,e2,guard _ _ _ _ hg,Result.andThen,hr]
   rfl
  ·rename_i by1 z1 hei
   refine Q2p fun hobs τ ht _ β fp Sh a w hs=>?_
   have h1:=hs.opd x; rw [opx ht,hx] at h1
   have h2:=hs.opd y; rw [opy ht,hy] at h2
   have e1:=Q8n h1; have e2:=Q8n h2
   have hg:=hobs _ List.mem_cons_self
   refine ⟨.bool (!(a0 == b0 && a1 == b1)),?_,.base _ _ (.bool _)⟩
   have hr:(binOp .neq t (.agg #[.int .i64 a0,.int .i64 a1]) (.agg #[.int .i64 b0,.int .i64 b1])).run P w=.ok (.bool (!(a0 == b0 && a1 == b1))) w:=by
    simp only [binOp,Sem.run_bind,Q8l hTI hsh hei rfl rfl,Result.andThen]; rfl
   simp only [execOp,ho,Sem.run_bind,e1,e2,guard _ _ _ _ hg,Result.andThen,hr]
   rfl
  ·exact .none
 ·exact .none

def Q8p (TI:Nat→Option Q1r) (nt:Nat) (o:Oper) (σ:Q0d) (t:Nat) (parts:List (Nat × Operand)):Option Ev :=
 match shp TI t,parts with
 | some (.array 2 e),[(0,x),(1,y)] =>
  match TI e,(TI t).map (·.zero),opv σ x,opv σ y with
  | some ⟨_,1,_,_⟩,some (AV.agg [_,_]),.int .i64 a,.int .i64 b=>qv nt o (.agg [.int .i64 a,.int .i64 b]) (opr x ++ opr y) [] []
  | _,_,_,_=>none
 | _,_=>none
theorem Q8q {TI:Nat→Option Q1r} (hTI:Q20 P TI) (t:Nat) (parts:Array (Nat × Operand)) (ho:o.op=.build t parts):Q2o P c o σ (Q8p TI c.nt o σ t parts.toList):=by
 unfold Q8p
 split
 ·rename_i e x y hsh hp
  split
  ·rename_i sh1 by1 z1 u1 u2 a0 b0 hei hz hx hy
   refine Q2p fun hobs τ ht _ β fp Sh a w hs=>?_
   have h1:=hs.opd x; rw [Q2k x (fun t h=>ht t (List.mem_append_left _ h)),hx] at h1
   have h2:=hs.opd y; rw [Q2k y (fun t h=>ht t (List.mem_append_right _ h)),hy] at h2
   have e1:=h1.int_inv; have e2:=h2.int_inv
   obtain ⟨ti,hti,hts⟩:=Q2l hsh
   obtain ⟨d,hd,h3⟩:=Q26 hTI hti w
   rw [hts] at h3
   have:d=.array 2 e:=by cases d <;> simp [Q1q] at h3 <;> simp [h3]
   subst this
   have hzr:=Q25 hTI hti w
   rw [hti] at hz
   simp only [Option.map_some,Option.some.injEq] at hz
   rw [hz] at hzr
   have hsz:(sizeOf e).run P w=.ok 1 w:=Q24 hTI hei w
   have hpa:parts=#[(0,x),(1,y)]:=by apply Array.ext'; simpa using hp
   refine ⟨.agg #[.int .i64 a0,.int .i64 b0],?_,.agg _ _ rfl (fun i hi=>?_)⟩
   ·have hrun:(Instr.build t #[(0,a.eval x),(1,a.eval y)]).run P w=.ok (.agg #[.int .i64 a0,.int .i64 b0]) w:=by
     simp only [Instr.build,Sem.run_bind,hzr,Result.andThen,hd,hsz,e1,e2,toV]
     rfl
    simp only [execOp,ho,hpa,Sem.run_bind]
    rw [show (Array.map (fun x=>match x with | (i,x)=>(i,a.eval x)) #[(0,x),(1,y)])=#[(0,a.eval x),(1,a.eval y)] from by simp,hrun]
    rfl
   ·rcases i with _ | _ | i
    ·exact .base _ _ (.int _ _)
    ·exact .base _ _ (.int _ _)
    ·simp at hi; omega
  ·exact .none
 ·exact .none
end
end Go.Am
