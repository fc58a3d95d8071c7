/- Operations that only compute: each told by a function on abstract values, and that function is right. -/
import Derived.Test.YtifijafaaljamaaDoorAmD
set_option linter.unusedSimpArgs false
set_option linter.unusedVariables false
namespace Go.Am
open Go.RowKit

structure Ev where
 rd:Rd
 wr:Wr
 obs:List Prop

def shp (TI:Nat→Option Q1r) (t:Nat):Option Shp:=(TI t).map Q1r.shp
theorem Q2l {TI:Nat→Option Q1r} {t:Nat} {s:Shp} (h:shp TI t=some s):∃ i,TI t=some i∧i.shp=s:=by
 unfold shp at h
 cases hi:TI t with
 | none=>simp [hi] at h
 | some i=>exact ⟨i,rfl,by simpa [hi] using h⟩

inductive Orc where
 | no
 | el (x:AV)
 | cond (b:Bool)
 | new (k:Nat)
 | mk (k:Nat) (own:Bool)
 | call (res:AV) (outs:List AV) (k0:Nat)
 | eqv (r:Orc) (wr:Wr)
 deriving Inhabited

def Q2m (P:Program) (c:Ctx) (o:Oper) (rd:Rd) (wr:Wr) (σ:Q0d):Prop :=
 ∀ τ,Q0r rd τ σ→(∀ k ∈ wr.new,¬ Q0h τ k∧τ.O k=none)→∀ a w,SRx c τ a w→∀ K Q,(∀ a' w',SRx c (τ.app wr) a' w'→K a' w')→o.wp P a w K Q

def Q2n (P:Program) (c:Ctx) (o:Oper) (v:AV) (τ:Q0d):Prop :=
 ∀ β fp Sh a w,SR c β fp Sh τ a w→∃ u,(execOp a.eval o).run P w=.ok (.value u) w∧Q0i w Sh β u v

def qv (nt:Nat) (o:Oper) (v:AV) (t ob:List Nat) (obs:List Prop):Option Ev :=
 match o.dst with
 | some d=>bif Nat.blt d nt then some ⟨⟨t,ob ++ (refs v).map (· + 1000000)⟩,⟨[(d,v)],[],[]⟩,obs⟩ else none
 | none=>none

def Q2o (P:Program) (c:Ctx) (o:Oper) (σ:Q0d) (r:Option Ev):Prop:=∀ ev,r=some ev→(∀ p ∈ ev.obs,p)→Q2m P c o ev.rd ev.wr σ

theorem Q2o.none {P:Program} {c:Ctx} {o:Oper} {σ:Q0d}:Q2o P c o σ none:=fun _ h=>by cases h

theorem Q2p {P:Program} {c:Ctx} {o:Oper} {σ:Q0d} {v:AV} {t ob:List Nat} {obs:List Prop}
  (hq:(∀ p ∈ obs,p)→∀ τ,(∀ x ∈ t,τ.T x=σ.T x)→(∀ k ∈ ob,τ.O k=σ.O k)→Q2n P c o v τ):Q2o P c o σ (qv c.nt o v t ob obs):=by
 intro ev h hobs τ hag hfr a w hsr K Q hK
 unfold qv at h
 cases hd:o.dst with
 | none=>simp [hd] at h
 | some d =>
  simp only [hd] at h
  cases hb:Nat.blt d c.nt with
  | false=>simp [hb] at h
  | true =>
   simp only [hb,cond_true,Option.some.injEq] at h
   subst h
   have hdn:d < c.nt:=by simpa [Nat.blt_eq] using hb
   obtain ⟨β,fp,Sh,hs⟩:=hsr
   obtain ⟨u,hrun,hu⟩:=hq hobs τ hag.1 (fun k hk=>hag.2 k (List.mem_append_left _ hk)) β fp Sh a w hs
   unfold Oper.wp
   rw [hrun]
   show K (a.put o.dst u) w
   rw [hd]
   exact hK _ _ ⟨β,fp,Sh,hs.put d hdn u v hu⟩

theorem Q2o.ite {P:Program} {c:Ctx} {o:Oper} {σ:Q0d} {b:Bool} {r s:Option Ev} (h:b=true→Q2o P c o σ r) (h':b=false→Q2o P c o σ s):Q2o P c o σ (bif b then r else s):=by
 cases b
 ·exact h' rfl
 ·exact h rfl

section
variable {P:Program} {c:Ctx} {o:Oper} {σ:Q0d}

def Q2q (nt:Nat) (o:Oper) (σ:Q0d) (x:Operand):Option Ev:=qv nt o (opv σ x) (opr x) [] []
theorem Q2r (x:Operand) (ho:o.op=.move x∨o.op=.assign x):Q2o P c o σ (Q2q c.nt o σ x) :=
 Q2p fun _ τ ht _ β fp Sh a w hs=>⟨a.eval x,by rcases ho with ho | ho <;> simp [execOp,ho,pure,Sem.run],by rw [← Q2k x ht]; exact hs.opd x⟩

def asB:AV→Option Bool
 | .bool b=>some b
 | _=>none
def Q2s (nt:Nat) (o:Oper) (σ:Q0d) (x a b:Operand) (r:Orc):Option Ev :=
 match opv σ x,r with
 | .bool bc,.cond b'=>qv nt o (bif b' then opv σ a else opv σ b) (opr x ++ (bif b' then opr a else opr b)) [] [bc=b']
 | _,_=>none
theorem Q2t (x a' b':Operand) (r:Orc) (ho:o.op=.pick x a' b'):Q2o P c o σ (Q2s c.nt o σ x a' b' r):=by
 unfold Q2s
 split
 ·rename_i bc bb hx
  refine Q2p fun hobs τ ht _ β fp Sh a w hs=>?_
  have e:bc=bb:=hobs _ (by simp)
  subst e
  have hc:=hs.opd x
  rw [Q2k x (fun t h=>ht t (List.mem_append_left _ h)),hx] at hc
  have hc':=hc.bool_inv
  cases bc with
  | true =>
   refine ⟨a.eval a',by simp [execOp,ho,hc',asBool,pure,Sem.run,Sem.run_bind,Result.andThen],?_⟩
   have:=hs.opd a'
   rw [Q2k a' (fun t h=>ht t (List.mem_append_right _ h))] at this
   exact this
  | false =>
   refine ⟨a.eval b',by simp [execOp,ho,hc',asBool,pure,Sem.run,Sem.run_bind,Result.andThen],?_⟩
   have:=hs.opd b'
   rw [Q2k b' (fun t h=>ht t (List.mem_append_right _ h))] at this
   exact this
 ·exact .none

def Q2u (op:BinOp) (k:IntKind) (x y:Int):Int :=
 match op with
 | .and=>k.wrap (BitVec.ofInt k.bits x &&& BitVec.ofInt k.bits y).toNat
 | .or=>k.wrap (BitVec.ofInt k.bits x ||| BitVec.ofInt k.bits y).toNat
 | .xor=>k.wrap (BitVec.ofInt k.bits x ^^^ BitVec.ofInt k.bits y).toNat
 | _=>k.wrap (BitVec.ofInt k.bits x &&& ~~~(BitVec.ofInt k.bits y)).toNat
def Q2v (k:IntKind) (x y:Int):Int:=k.wrap (x * 2 ^ (min y.toNat k.bits))
def Q2w (k:IntKind) (x y:Int):Int:=x.fdiv (2 ^ (min y.toNat k.bits))
def Q2x (op:BinOp) (k:IntKind) (x y:Int):AV × List Prop :=
 match op with
 | .add=>(.int k (k.wrap (x + y)),[])
 | .sub=>(.int k (k.wrap (x - y)),[])
 | .mul=>(.int k (k.wrap (x * y)),[])
 | .quo=>(.int k (k.wrap (x.tdiv y)),[y ≠ 0])
 | .rem=>(.int k (x.tmod y),[y ≠ 0])
 | .and=>(.int k (Q2u .and k x y),[])
 | .or=>(.int k (Q2u .or k x y),[])
 | .xor=>(.int k (Q2u .xor k x y),[])
 | .andNot=>(.int k (Q2u .andNot k x y),[])
 | .shl=>(.int k (Q2v k x y),[0 ≤ y])
 | .shr=>(.int k (Q2w k x y),[0 ≤ y])
 | .eql=>(.bool (x == y),[])
 | .neq=>(.bool (x != y),[])
 | .lss=>(.bool (decide (x < y)),[])
 | .leq=>(.bool (decide (x ≤ y)),[])
 | .gtr=>(.bool (decide (x > y)),[])
 | .geq=>(.bool (decide (x ≥ y)),[])
theorem Q2y (op:BinOp) (k k':IntKind) (x y:Int) (t:TypeId) (w:World) (hk:k=k'∨op=.shl∨op=.shr) (h:∀ p ∈ (Q2x op k x y).2,p) :
  ∃ u,(binOp op t (.int k x) (.int k' y)).run P w=.ok u w∧∀ Sh β,Q0i w Sh β u (Q2x op k x y).1:=by
 have r1:∀ n,∃ u,(pure (Value.int k n):Sem Value).run P w=.ok u w∧∀ Sh β,Q0i w Sh β u (.int k n):=fun n=>⟨_,rfl,fun _ _=>.base _ _ (.int k n)⟩
 have r2:∀ n,∃ u,(pure (Value.bool n):Sem Value).run P w=.ok u w∧∀ Sh β,Q0i w Sh β u (.bool n):=fun n=>⟨_,rfl,fun _ _=>.base _ _ (.bool n)⟩
 cases op <;> simp only [Q2x,List.mem_singleton,forall_eq,List.not_mem_nil,false_implies,implies_true] at h ⊢
 case shl=>rw [binOp,Op.shift,if_neg (by omega)]; exact r1 _
 case shr=>rw [binOp,Op.shift,if_neg (by omega)]; exact r1 _
 all_goals
  have hk':k=k':=by rcases hk with h | h | h <;> first | exact h | cases h
  subst hk'
  simp only [binOp,ne_eq,not_true_eq_false,if_false]
 case add=>exact r1 _
 case sub=>exact r1 _
 case mul=>exact r1 _
 case quo=>rw [Op.intDiv,if_neg h]; exact r1 _
 case rem=>rw [Op.intDiv,if_neg h]; exact r1 _
 case and=>exact r1 _
 case or=>exact r1 _
 case xor=>exact r1 _
 case andNot=>exact r1 _
 case eql=>exact r2 _
 case neq=>exact r2 _
 case lss=>exact r2 _
 case leq=>exact r2 _
 case gtr=>exact r2 _
 case geq=>exact r2 _

def Q2z (op:BinOp) (x y:ByteArray):Option (AV × List Prop) :=
 match op with
 | .add=>some (.str (x ++ y),[((x.size + y.size:Nat):Int) ≤ 9223372036854775807])
 | .eql=>some (.bool (x.toList == y.toList),[])
 | .neq=>some (.bool (!(x.toList == y.toList)),[])
 | .lss=>some (.bool (Op.bytesLess x.toList y.toList),[])
 | _=>none
theorem Q30 (op:BinOp) (x y:ByteArray) (t:TypeId) (w:World) (r:AV × List Prop) (hr:Q2z op x y=some r) (h:∀ p ∈ r.2,p) :
  ∃ u,(binOp op t (.string x) (.string y)).run P w=.ok u w∧∀ Sh β,Q0i w Sh β u r.1:=by
 cases op <;> simp only [Q2z,Option.some.injEq,reduceCtorEq] at hr <;> subst hr
 case add =>
  have h1:¬ (((x.size + y.size:Nat):Int) > IntKind.i64.max):=by
   have:=h _ (List.mem_singleton.2 rfl); have e:IntKind.i64.max=9223372036854775807:=by decide
   rw [e]; omega
  refine ⟨.string (x ++ y),?_,fun _ _=>.base _ _ (.str _)⟩
  simp only [binOp,Op.stringOp]
  rw [if_neg h1]; rfl
 case eql=>exact ⟨_,rfl,fun _ _=>.base _ _ (.bool _)⟩
 case neq=>exact ⟨_,rfl,fun _ _=>.base _ _ (.bool _)⟩
 case lss=>exact ⟨_,rfl,fun _ _=>.base _ _ (.bool _)⟩

def Q31 (TI:Nat→Option Q1r) (nt:Nat) (o:Oper) (σ:Q0d) (op:BinOp) (t:Nat) (x y:Operand):Option Ev :=
 match opv σ x,opv σ y with
 | .int k a,.int k' b=>bif (k == k' || op == .shl || op == .shr) then qv nt o (Q2x op k a b).1 (opr x ++ opr y) [] (Q2x op k a b).2 else none
 | .str a,.str b =>
  match Q2z op a b with
  | some r=>qv nt o r.1 (opr x ++ opr y) [] r.2
  | none=>none
 | .bool a,.bool b =>
  match op,shp TI t with
  | .eql,some .bool=>qv nt o (.bool (a == b)) (opr x ++ opr y) [] []
  | .neq,some .bool=>qv nt o (.bool (!(a == b))) (opr x ++ opr y) [] []
  | _,_=>none
 | .nilp,.nilp =>
  match op,shp TI t with
  | .eql,some (.pointer _)=>qv nt o (.bool true) (opr x ++ opr y) [] []
  | .neq,some (.pointer _)=>qv nt o (.bool false) (opr x ++ opr y) [] []
  | _,_=>none
 | .ptr _ _,.nilp =>
  match op,shp TI t with
  | .eql,some (.pointer _)=>qv nt o (.bool false) (opr x ++ opr y) [] []
  | .neq,some (.pointer _)=>qv nt o (.bool true) (opr x ++ opr y) [] []
  | _,_=>none
 | .ra _ _,.nilp =>
  match op,shp TI t with
  | .eql,some (.pointer _)=>qv nt o (.bool false) (opr x ++ opr y) [] []
  | .neq,some (.pointer _)=>qv nt o (.bool true) (opr x ++ opr y) [] []
  | _,_=>none
 | .sl xs,.nils =>
  match op,shp TI t with
  | .eql,some (.slice _)=>qv nt o (.nilq xs) (opr x ++ opr y) [] []
  | _,_=>none
 | _,_=>none

theorem Q32 (op:BinOp) (t:TypeId) (x y:Operand) (a b:Value) (w:World) (h1:a ≠ .nilIface) (h2:∀ cs,a ≠ .agg cs):(eqGuard op t x y a b).run P w=.ok () w:=by
 unfold eqGuard
 cases op <;> simp [pure,Sem.run,Sem.run_bind,Result.andThen] <;> (cases a <;> first | exact absurd rfl h1 | exact absurd rfl (h2 _) | rfl)

theorem Q33 (n:Nat) {t:Nat} (w:World) (hd:(underlying t).run P w=.ok .bool w) (a b:Bool):(Op.equalIn (n + 1) t (.bool a) (.bool b)).run P w=.ok (a == b) w:=by
 simp only [Op.equalIn,Sem.run_bind,hd,Result.andThen]
 rfl
theorem Q34 (n:Nat) {t e:Nat} (w:World) (hd:(underlying t).run P w=.ok (.pointer e) w) (a:Option Addr):(Op.equalIn (n + 1) t (.pointer a) (.pointer none)).run P w=.ok a.isNone w:=by
 cases a <;> simp only [Op.equalIn,Sem.run_bind,hd,Result.andThen] <;> rfl
theorem Q35 {TI:Nat→Option Q1r} (hTI:Q20 P TI) {t:Nat} (ht:shp TI t=some .bool) (a b:Bool) (w:World):(Op.equal t (.bool a) (.bool b)).run P w=.ok (a == b) w:=by
 obtain ⟨i,hi,ht⟩:=Q2l ht
 obtain ⟨d,hd,h2⟩:=Q26 hTI hi w
 rw [ht] at h2
 have hdb:d=.bool:=by cases d <;> simp [Q1q] at h2 <;> rfl
 subst hdb
 exact Q33 9999 w hd a b
theorem Q36 {TI:Nat→Option Q1r} (hTI:Q20 P TI) {t e:Nat} (ht:shp TI t=some (.pointer e)) (a:Option Addr) (w:World):(Op.equal t (.pointer a) (.pointer none)).run P w=.ok a.isNone w:=by
 obtain ⟨i,hi,ht⟩:=Q2l ht
 obtain ⟨d,hd,h2⟩:=Q26 hTI hi w
 rw [ht] at h2
 have hdb:∃ e',d=.pointer e':=by cases d <;> simp [Q1q] at h2 <;> exact ⟨_,rfl⟩
 obtain ⟨e',rfl⟩:=hdb
 exact Q34 9999 w hd a

theorem Q37 (n:Nat) {t e:Nat} (w:World) (hd:(underlying t).run P w=.ok (.slice e) w) (a:Option Addr) (l c:Nat):(Op.equalIn (n + 1) t (.slice a l c) (.slice none 0 0)).run P w=.ok a.isNone w:=by
 cases a <;> simp only [Op.equalIn,Sem.run_bind,hd,Result.andThen] <;> rfl
theorem Q38 {TI:Nat→Option Q1r} (hTI:Q20 P TI) {t e:Nat} (ht:shp TI t=some (.slice e)) (a:Option Addr) (l c:Nat) (w:World):(Op.equal t (.slice a l c) (.slice none 0 0)).run P w=.ok a.isNone w:=by
 obtain ⟨i,hi,ht⟩:=Q2l ht
 obtain ⟨d,hd,h2⟩:=Q26 hTI hi w
 rw [ht] at h2
 have hdb:∃ e',d=.slice e':=by cases d <;> simp [Q1q] at h2 <;> exact ⟨_,rfl⟩
 obtain ⟨e',rfl⟩:=hdb
 exact Q37 9999 w hd a l c

theorem Q39 {TI:Nat→Option Q1r} (hTI:Q20 P TI) (op:BinOp) (t:Nat) (x y:Operand) (ty:TypeId) (ho:o.op=.binOp op t x y ty):Q2o P c o σ (Q31 TI c.nt o σ op t x y):=by
 have opx:∀ {τ:Q0d},(∀ t ∈ opr x ++ opr y,τ.T t=σ.T t)→opv τ x=opv σ x:=fun ht=>Q2k x (fun t h=>ht t (List.mem_append_left _ h))
 have opy:∀ {τ:Q0d},(∀ t ∈ opr x ++ opr y,τ.T t=σ.T t)→opv τ y=opv σ y:=fun ht=>Q2k y (fun t h=>ht t (List.mem_append_right _ h))
 have fin:∀ (a:Act) (w:World) (u:Value),a.eval x ≠ .nilIface→(∀ cs,a.eval x ≠ .agg cs)→(binOp op t (a.eval x) (a.eval y)).run P w=.ok u w→(execOp a.eval o).run P w=.ok (.value u) w:=by
  intro a w u h1 h2 h3
  simp only [execOp,ho,Sem.run_bind,Q32 op t x y _ _ w h1 h2,Result.andThen,h3]
  rfl
 unfold Q31
 split
 ·rename_i k a' k' b' hx hy
  refine .ite (fun hk=>Q2p fun hobs τ ht _ β fp Sh a w hs=>?_) (fun _=>.none)
  have h1:=hs.opd x; rw [opx ht,hx] at h1
  have h2:=hs.opd y; rw [opy ht,hy] at h2
  have e1:=h1.int_inv; have e2:=h2.int_inv
  obtain ⟨u,hr,hu⟩:=Q2y (P:=P) op k k' a' b' t w (by simp only [Bool.or_eq_true,beq_iff_eq] at hk; rcases hk with (h | h) | h <;> simp [h]) hobs
  exact ⟨u,fin a w u (by rw [e1]; simp) (by rw [e1]; simp) (by rw [e1,e2]; exact hr),hu Sh β⟩
 ·rename_i a' b' hx hy
  split
  ·rename_i r hr
   refine Q2p fun hobs τ ht _ β fp Sh a w hs=>?_
   have h1:=hs.opd x; rw [opx ht,hx] at h1
   have h2:=hs.opd y; rw [opy ht,hy] at h2
   have e1:=h1.str_inv; have e2:=h2.str_inv
   obtain ⟨u,hr',hu⟩:=Q30 (P:=P) op a' b' t w r hr hobs
   exact ⟨u,fin a w u (by rw [e1]; simp) (by rw [e1]; simp) (by rw [e1,e2]; exact hr'),hu Sh β⟩
  ·exact .none
 ·rename_i a' b' hx hy
  split
  ·rename_i hsh
   refine Q2p fun hobs τ ht _ β fp Sh a w hs=>?_
   have h1:=hs.opd x; rw [opx ht,hx] at h1
   have h2:=hs.opd y; rw [opy ht,hy] at h2
   have e1:=h1.bool_inv; have e2:=h2.bool_inv
   refine ⟨_,fin a w (.bool (a' == b')) (by rw [e1]; simp) (by rw [e1]; simp) ?_,.base _ _ (.bool _)⟩
   rw [e1,e2]; simp only [binOp,Sem.run_bind,Q35 hTI hsh,Result.andThen]; rfl
  ·rename_i hsh
   refine Q2p fun hobs τ ht _ β fp Sh a w hs=>?_
   have h1:=hs.opd x; rw [opx ht,hx] at h1
   have h2:=hs.opd y; rw [opy ht,hy] at h2
   have e1:=h1.bool_inv; have e2:=h2.bool_inv
   refine ⟨_,fin a w (.bool (!(a' == b'))) (by rw [e1]; simp) (by rw [e1]; simp) ?_,.base _ _ (.bool _)⟩
   rw [e1,e2]; simp only [binOp,Sem.run_bind,Q35 hTI hsh,Result.andThen]; rfl
  ·exact .none
 ·rename_i hx hy
  split
  ·rename_i e hsh
   refine Q2p fun hobs τ ht _ β fp Sh a w hs=>?_
   have h1:=hs.opd x; rw [opx ht,hx] at h1
   have h2:=hs.opd y; rw [opy ht,hy] at h2
   have e1:=h1.nilp_inv; have e2:=h2.nilp_inv
   refine ⟨_,fin a w (.bool true) (by rw [e1]; simp) (by rw [e1]; simp) ?_,.base _ _ (.bool _)⟩
   rw [e1,e2]; simp only [binOp,Sem.run_bind,Q36 hTI hsh,Result.andThen]; rfl
  ·rename_i e hsh
   refine Q2p fun hobs τ ht _ β fp Sh a w hs=>?_
   have h1:=hs.opd x; rw [opx ht,hx] at h1
   have h2:=hs.opd y; rw [opy ht,hy] at h2
   have e1:=h1.nilp_inv; have e2:=h2.nilp_inv
   refine ⟨_,fin a w (.bool false) (by rw [e1]; simp) (by rw [e1]; simp) ?_,.base _ _ (.bool _)⟩
   rw [e1,e2]; simp only [binOp,Sem.run_bind,Q36 hTI hsh,Result.andThen]; rfl
  ·exact .none
 ·rename_i cs off hx hy
  split
  ·rename_i e hsh
   refine Q2p fun hobs τ ht _ β fp Sh a w hs=>?_
   have h1:=hs.opd x; rw [opx ht,hx] at h1
   have h2:=hs.opd y; rw [opy ht,hy] at h2
   obtain ⟨b,o',f,e1,_⟩:=h1.ptr_inv; have e2:=h2.nilp_inv
   refine ⟨_,fin a w (.bool false) (by rw [e1]; simp) (by rw [e1]; simp) ?_,.base _ _ (.bool _)⟩
   rw [e1,e2]; simp only [binOp,Sem.run_bind,Q36 hTI hsh,Result.andThen]; rfl
  ·rename_i e hsh
   refine Q2p fun hobs τ ht _ β fp Sh a w hs=>?_
   have h1:=hs.opd x; rw [opx ht,hx] at h1
   have h2:=hs.opd y; rw [opy ht,hy] at h2
   obtain ⟨b,o',f,e1,_⟩:=h1.ptr_inv; have e2:=h2.nilp_inv
   refine ⟨_,fin a w (.bool true) (by rw [e1]; simp) (by rw [e1]; simp) ?_,.base _ _ (.bool _)⟩
   rw [e1,e2]; simp only [binOp,Sem.run_bind,Q36 hTI hsh,Result.andThen]; rfl
  ·exact .none
 ·rename_i id off hx hy
  split
  ·rename_i e hsh
   refine Q2p fun hobs τ ht _ β fp Sh a w hs=>?_
   have h1:=hs.opd x; rw [opx ht,hx] at h1
   have h2:=hs.opd y; rw [opy ht,hy] at h2
   obtain ⟨g,_,e1⟩:=h1.ra_inv; have e2:=h2.nilp_inv
   refine ⟨_,fin a w (.bool false) (by rw [e1]; simp) (by rw [e1]; simp) ?_,.base _ _ (.bool _)⟩
   rw [e1,e2]; simp only [binOp,Sem.run_bind,Q36 hTI hsh,Result.andThen]; rfl
  ·rename_i e hsh
   refine Q2p fun hobs τ ht _ β fp Sh a w hs=>?_
   have h1:=hs.opd x; rw [opx ht,hx] at h1
   have h2:=hs.opd y; rw [opy ht,hy] at h2
   obtain ⟨g,_,e1⟩:=h1.ra_inv; have e2:=h2.nilp_inv
   refine ⟨_,fin a w (.bool true) (by rw [e1]; simp) (by rw [e1]; simp) ?_,.base _ _ (.bool _)⟩
   rw [e1,e2]; simp only [binOp,Sem.run_bind,Q36 hTI hsh,Result.andThen]; rfl
  ·exact .none
 ·rename_i xs hx hy
  split
  ·rename_i e hsh
   refine Q2p fun hobs τ ht _ β fp Sh a w hs=>?_
   have h1:=hs.opd x; rw [opx ht,hx] at h1
   have h2:=hs.opd y; rw [opy ht,hy] at h2
   have e2:=h2.nils_inv
   have key:∀ A l cp,a.eval x=.slice A l cp→(A.isNone=true→xs=[])→∃ u,(execOp a.eval o).run P w=.ok (.value u) w∧Q0i w Sh β u (.nilq xs):=fun A l cp e1 hn=>by
    refine ⟨_,fin a w (.bool A.isNone) (by rw [e1]; simp) (by rw [e1]; simp) ?_,.base _ _ (.nilq _ _ hn)⟩
    rw [e1,e2]; simp only [binOp,Sem.run_bind,Q38 hTI hsh,Result.andThen]; rfl
   have h3:=h1.sl_inv
   generalize hv:a.eval x=v at h3
   cases h3 with
   | sl0 A cp=>exact key _ _ _ hv (fun _=>rfl)
   | sl1 b o' cp sz xs f hb hc hz hm hh=>exact key _ _ _ hv (fun h=>by cases h)
  ·exact .none
 ·exact .none

def Q3a (nt:Nat) (o:Oper) (σ:Q0d) (op:UnOp) (x:Operand):Option Ev :=
 match op,opv σ x with
 | .not,.bool b=>qv nt o (.bool (!b)) (opr x) [] []
 | .neg,.int k n=>qv nt o (.int k (k.wrap (0 - n))) (opr x) [] []
 | _,_=>none
theorem Q3b (op:UnOp) (t:TypeId) (x:Operand) (ho:o.op=.unOp op t x):Q2o P c o σ (Q3a c.nt o σ op x):=by
 unfold Q3a
 split
 ·rename_i b hx
  refine Q2p fun hobs τ ht _ β fp Sh a w hs=>?_
  have h1:=hs.opd x; rw [Q2k x ht,hx] at h1
  have e1:=h1.bool_inv
  exact ⟨.bool (!b),by simp [execOp,ho,e1,Op.unary,pure,Sem.run,Sem.run_bind,Result.andThen],.base _ _ (.bool _)⟩
 ·rename_i k n hx
  refine Q2p fun hobs τ ht _ β fp Sh a w hs=>?_
  have h1:=hs.opd x; rw [Q2k x ht,hx] at h1
  have e1:=h1.int_inv
  exact ⟨.int k (k.wrap (0 - n)),by simp [execOp,ho,e1,Op.unary,Op.intArith,pure,Sem.run,Sem.run_bind,Result.andThen],.base _ _ (.int _ _)⟩
 ·exact .none

def Q3c (TI:Nat→Option Q1r) (nt:Nat) (o:Oper) (σ:Q0d) (src dst:Nat) (x:Operand):Option Ev :=
 match opv σ x,shp TI src,shp TI dst with
 | .int _ n,some (.int _),some (.int k)=>qv nt o (.int k (k.wrap n)) (opr x) [] []
 | _,_,_=>none
theorem Q3d {TI:Nat→Option Q1r} (hTI:Q20 P TI) (src dst:Nat) (x:Operand) (ho:o.op=.convert src dst x):Q2o P c o σ (Q3c TI c.nt o σ src dst x):=by
 unfold Q3c
 split
 ·rename_i k0 n k1 k hx hs1 hs2
  refine Q2p fun hobs τ ht _ β fp Sh a w hs=>?_
  have h1:=hs.opd x; rw [Q2k x ht,hx] at h1
  have e1:=h1.int_inv
  obtain ⟨i,hi,hs1⟩:=Q2l hs1
  obtain ⟨j,hj,hs2⟩:=Q2l hs2
  obtain ⟨d1,hd1,h2⟩:=Q26 hTI hi w
  obtain ⟨d2,hd2,h3⟩:=Q26 hTI hj w
  rw [hs1] at h2; rw [hs2] at h3
  have:d1=.int k1:=by cases d1 <;> simp [Q1q] at h2 <;> simp [h2]
  subst this
  have:d2=.int k:=by cases d2 <;> simp [Q1q] at h3 <;> simp [h3]
  subst this
  refine ⟨.int k (k.wrap n),?_,.base _ _ (.int _ _)⟩
  simp only [execOp,ho,e1,convert,Sem.run_bind,hd1,hd2,Result.andThen,Conv.intToInt]
  rfl
 ·exact .none

def Q3e (nt:Nat) (o:Oper) (σ:Q0d) (x:Operand) (ix:Nat):Option Ev :=
 match opv σ x with
 | .tup vs=>bif Nat.blt ix vs.length then qv nt o (av vs ix) (opr x) [] [] else none
 | _=>none
theorem Q3f (x:Operand) (ix:Nat) (ho:o.op=.extract x ix):Q2o P c o σ (Q3e c.nt o σ x ix):=by
 unfold Q3e
 split
 ·rename_i vs hx
  refine .ite (fun hk=>Q2p fun hobs τ ht _ β fp Sh a w hs=>?_) (fun _=>.none)
  have hk:ix < vs.length:=by simpa [Nat.blt_eq] using hk
  have h1:=hs.opd x; rw [Q2k x ht,hx] at h1
  obtain ⟨cc,e1,hsz,hh⟩:=h1.tup_inv
  refine ⟨cc.getD ix undef,?_,hh ix hk⟩
  have hi:ix < cc.size:=by omega
  simp [execOp,ho,e1,Instr.extract,hi,pure,Sem.run,Sem.run_bind,Result.andThen]
 ·exact .none

def Q3g (nt:Nat) (o:Oper) (σ:Q0d) (x:Operand):Option Ev :=
 match opv σ x with
 | .ptr cs off=>qv nt o (.ptr cs off) (opr x) [] []
 | .ra id off=>qv nt o (.ra id off) (opr x) [] []
 | .ea id sz i off=>qv nt o (.ea id sz i off) (opr x) [] []
 | .fn f cs=>qv nt o (.fn f cs) (opr x) [] []
 | _=>none
theorem Q3h (x:Operand) (ho:o.op=.nilCheck x):Q2o P c o σ (Q3g c.nt o σ x):=by
 unfold Q3g
 split
 ·rename_i cs off hx
  refine Q2p fun hobs τ ht _ β fp Sh a w hs=>?_
  have h1:=hs.opd x; rw [Q2k x ht,hx] at h1
  obtain ⟨b,o',f,e1,_⟩:=h1.ptr_inv
  exact ⟨_,by simp [execOp,ho,e1,pure,Sem.run],e1 ▸ h1⟩
 ·rename_i id off hx
  refine Q2p fun hobs τ ht _ β fp Sh a w hs=>?_
  have h1:=hs.opd x; rw [Q2k x ht,hx] at h1
  obtain ⟨g,_,e1⟩:=h1.ra_inv
  exact ⟨_,by simp [execOp,ho,e1,pure,Sem.run],e1 ▸ h1⟩
 ·rename_i id sz i off hx
  refine Q2p fun hobs τ ht _ β fp Sh a w hs=>?_
  have h1:=hs.opd x; rw [Q2k x ht,hx] at h1
  obtain ⟨g,n,c',_,e1⟩:=h1.ea_inv
  exact ⟨_,by simp [execOp,ho,e1,pure,Sem.run],e1 ▸ h1⟩
 ·rename_i f cs hx
  refine Q2p fun hobs τ ht _ β fp Sh a w hs=>?_
  have h1:=hs.opd x; rw [Q2k x ht,hx] at h1
  obtain ⟨c',e1,_⟩:=h1.fn_inv
  exact ⟨_,by simp [execOp,ho,e1,pure,Sem.run],e1 ▸ h1⟩
 ·exact .none

def Q3i (TI:Nat→Option Q1r) (nt:Nat) (o:Oper) (σ:Q0d) (t:Nat) (x y:Operand):Option Ev :=
 match opv σ x,opv σ y,shp TI t with
 | .str s,.int _ i,some .string=>qv nt o (.int .u8 ((s.data.getD i.toNat 0).toNat:Int)) (opr x ++ opr y) [] [0 ≤ i∧i < (s.size:Int)]
 | _,_,_=>none
theorem Q3j {TI:Nat→Option Q1r} (hTI:Q20 P TI) (t:Nat) (x y:Operand) (ho:o.op=.index t x y):Q2o P c o σ (Q3i TI c.nt o σ t x y):=by
 unfold Q3i
 split
 ·rename_i s k i hx hy hsh
  refine Q2p fun hobs τ ht _ β fp Sh a w hs=>?_
  have h1:=hs.opd x; rw [Q2k x (fun t h=>ht t (List.mem_append_left _ h)),hx] at h1
  have h2:=hs.opd y; rw [Q2k y (fun t h=>ht t (List.mem_append_right _ h)),hy] at h2
  have e1:=h1.str_inv; have e2:=h2.int_inv
  have hb:=hobs _ (List.mem_singleton.2 rfl)
  obtain ⟨ii,hi,hsh⟩:=Q2l hsh
  obtain ⟨d,hd,h3⟩:=Q26 hTI hi w
  rw [hsh] at h3
  have:d=.string:=by cases d <;> simp [Q1q] at h3 <;> rfl
  subst this
  have hlt:i.toNat < s.size:=by omega
  have hg:s[i.toNat]?=some (s.data.getD i.toNat 0):=by
   have h':i.toNat < s.data.size:=hlt
   rw [show s[i.toNat]?=some s[i.toNat] from getElem?_pos s i.toNat hlt]
   simp only [Array.getD,h',dif_pos]
   rfl
  refine ⟨.int .u8 ((s.data.getD i.toNat 0).toNat:Int),?_,.base _ _ (.int _ _)⟩
  simp only [execOp,ho,e1,e2,Instr.index,asIntOf,Sem.run_bind,hd,Result.andThen,Sem.run_pure,if_pos hb.1,hg]
 ·exact .none

def Q3k (nt:Nat) (o:Oper) (σ:Q0d) (f:FuncId) (caps:List Operand):Option Ev:=qv nt o (.fn f (caps.map (opv σ))) (caps.flatMap opr) [] []
theorem Q3l (f:FuncId) (caps:Array Operand) (ho:o.op=.makeFunc (.func f) #[] caps):Q2o P c o σ (Q3k c.nt o σ f caps.toList):=by
 refine Q2p fun hobs τ ht _ β fp Sh a w hs=>⟨.func (.func f) #[] (caps.map a.eval),by simp [execOp,ho,Instr.makeFunc,pure,Sem.run,Sem.run_bind,Result.andThen],?_⟩
 refine .fn f _ _ (by simp) (fun i hi=>?_)
 have hi':i < caps.size:=by simpa using hi
 have e1:(caps.map a.eval).getD i undef=a.eval caps[i]:=by simp [Array.getD,hi']
 have e2:av (caps.toList.map (opv σ)) i=opv σ caps[i]:=by simp [av,List.getD_eq_getElem?_getD,hi']
 rw [e1,e2,← Q2k caps[i] (fun t h=>ht t (List.mem_flatMap.2 ⟨caps[i],by simp,h⟩))]
 exact hs.opd _

def Q3m:AV→Bool
 | .int _ _ | .bool _ | .str _ | .nils | .nilp | .sl _ | .ptr _ _=>true
 | _=>false
def okB:AV→Bool
 | .agg cs=>cs.all Q3m
 | x=>Q3m x
theorem Q3n {w:World} {Sh:Nat→Prop} {β:Nat→Value} {v:Value} {x:AV} (h:Q0i w Sh β v x) (hx:okB x=true):Q03 w Sh v x:=by
 have leaf:∀ {v:Value} {x:AV},Q0i w Sh β v x→Q3m x=true→Q03 w Sh v x:=fun {v x} h hp=>by
  cases h with
  | base _ _ h=>exact h
  | _=>simp [Q3m] at hp
 cases x with
 | agg cs =>
  obtain ⟨c,rfl,hs,hh⟩:=h.agg_inv
  simp only [okB,List.all_eq_true] at hx
  refine .agg c cs hs (fun i hi=>leaf (hh i hi) (hx _ ?_))
  have:av cs i=cs[i]:=by simp [av,List.getD_eq_getElem?_getD,hi]
  rw [this]; exact List.getElem_mem hi
 | _=>exact leaf h hx
def Q3o (nt:Nat) (o:Oper) (σ:Q0d) (f:FuncId) (fs:List Operand):Option Ev:=bif (fs.map (opv σ)).all okB then qv nt o (.fnb f (fs.map (opv σ))) (fs.flatMap opr) [] [] else none
theorem Q3p (f:FuncId) (fs:Array Operand) (ho:o.op=.makeFunc (.func f) fs #[]):Q2o P c o σ (Q3o c.nt o σ f fs.toList):=by
 refine .ite (fun hb=>?_) (fun _=>.none)
 rw [List.all_eq_true] at hb
 refine Q2p fun hobs τ ht _ β fp Sh a w hs=>⟨.func (.func f) (fs.map a.eval) #[],by simp [execOp,ho,Instr.makeFunc,pure,Sem.run,Sem.run_bind,Result.andThen],?_⟩
 refine .base _ _ (.fnb f _ _ (by simp) (fun i hi=>?_))
 have hi':i < fs.size:=by simpa using hi
 have e1:(fs.map a.eval).getD i undef=a.eval fs[i]:=by simp [Array.getD,hi']
 have e2:av (fs.toList.map (opv σ)) i=opv σ fs[i]:=by simp [av,List.getD_eq_getElem?_getD,hi']
 have h3:=hs.opd fs[i]
 rw [Q2k fs[i] (fun t h=>ht t (List.mem_flatMap.2 ⟨fs[i],by simp,h⟩))] at h3
 rw [e1,e2]
 exact Q3n h3 (hb _ (List.mem_map.2 ⟨fs[i],by simp,rfl⟩))
end

end Go.Am
