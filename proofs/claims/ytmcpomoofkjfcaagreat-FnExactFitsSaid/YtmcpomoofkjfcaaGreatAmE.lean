/- Operations that only compute: each told by a function on abstract values, and that function is right. -/
import Derived.Test.YtmcpomoofkjfcaaGreatAmD
set_option linter.unusedSimpArgs false
set_option linter.unusedVariables false
namespace Go.Am
open Go.RowKit

structure Ev where
 rd:Rd
 wr:Wr
 obs:List Prop

def shp (TI:Nat→Option TInfo) (t:Nat):Option Shp:=(TI t).map TInfo.shp
theorem shp_of {TI:Nat→Option TInfo} {t:Nat} {s:Shp} (h:shp TI t=some s):∃ i,TI t=some i∧i.shp=s:=by
 unfold shp at h
 cases hi:TI t with
 | none=>simp [hi] at h
 | some i=>exact ⟨i,rfl,by simpa [hi] using h⟩

inductive Orc where
 | no
 | el (x:AV)
 | cond (b:Bool)
 | new (k:Nat)
 | mk (k:Nat) (own:Bool)
 | call (res:AV) (outs:List AV) (k0:Nat)
 | eqv (r:Orc) (wr:Wr)
 deriving Inhabited

def StepE (P:Program) (c:Ctx) (o:Oper) (rd:Rd) (wr:Wr) (σ:AState):Prop :=
 ∀ τ,Agree rd τ σ→(∀ k ∈ wr.new,¬ Mentions τ k∧τ.O k=none)→∀ a w,SRx c τ a w→∀ K Q,(∀ a' w',SRx c (τ.app wr) a' w'→K a' w')→o.wp P a w K Q

def QuietOK (P:Program) (c:Ctx) (o:Oper) (v:AV) (τ:AState):Prop :=
 ∀ β fp Sh a w,SR c β fp Sh τ a w→∃ u,(execOp a.eval o).run P w=.ok (.value u) w∧TRep w Sh β u v

def qv (nt:Nat) (o:Oper) (v:AV) (t ob:List Nat) (obs:List Prop):Option Ev :=
 match o.dst with
 | some d=>bif Nat.blt d nt then some ⟨⟨t,ob ++ (refs v).map (· + 1000000)⟩,⟨[(d,v)],[],[]⟩,obs⟩ else none
 | none=>none

def Sound (P:Program) (c:Ctx) (o:Oper) (σ:AState) (r:Option Ev):Prop:=∀ ev,r=some ev→(∀ p ∈ ev.obs,p)→StepE P c o ev.rd ev.wr σ

theorem Sound.none {P:Program} {c:Ctx} {o:Oper} {σ:AState}:Sound P c o σ none:=fun _ h=>by cases h

theorem qv_sound {P:Program} {c:Ctx} {o:Oper} {σ:AState} {v:AV} {t ob:List Nat} {obs:List Prop}
  (hq:(∀ p ∈ obs,p)→∀ τ,(∀ x ∈ t,τ.T x=σ.T x)→(∀ k ∈ ob,τ.O k=σ.O k)→QuietOK P c o v τ):Sound P c o σ (qv c.nt o v t ob obs):=by
 intro ev h hobs τ hag hfr a w hsr K Q hK
 unfold qv at h
 cases hd:o.dst with
 | none=>simp [hd] at h
 | some d =>
  simp only [hd] at h
  cases hb:Nat.blt d c.nt with
  | false=>simp [hb] at h
  | true =>
   simp only [hb,cond_true,Option.some.injEq] at h
   subst h
   have hdn:d < c.nt:=by simpa [Nat.blt_eq] using hb
   obtain ⟨β,fp,Sh,hs⟩:=hsr
   obtain ⟨u,hrun,hu⟩:=hq hobs τ hag.1 (fun k hk=>hag.2 k (List.mem_append_left _ hk)) β fp Sh a w hs
   unfold Oper.wp
   rw [hrun]
   show K (a.put o.dst u) w
   rw [hd]
   exact hK _ _ ⟨β,fp,Sh,hs.put d hdn u v hu⟩

theorem Sound.ite {P:Program} {c:Ctx} {o:Oper} {σ:AState} {b:Bool} {r s:Option Ev} (h:b=true→Sound P c o σ r) (h':b=false→Sound P c o σ s):Sound P c o σ (bif b then r else s):=by
 cases b
 ·exact h' rfl
 ·exact h rfl

section
variable {P:Program} {c:Ctx} {o:Oper} {σ:AState}

def evMove (nt:Nat) (o:Oper) (σ:AState) (x:Operand):Option Ev:=qv nt o (opv σ x) (opr x) [] []
theorem evMove_sound (x:Operand) (ho:o.op=.move x∨o.op=.assign x):Sound P c o σ (evMove c.nt o σ x) :=
 qv_sound fun _ τ ht _ β fp Sh a w hs=>⟨a.eval x,by rcases ho with ho | ho <;> simp [execOp,ho,pure,Sem.run],by rw [← opv_agree x ht]; exact hs.opd x⟩

def asB:AV→Option Bool
 | .bool b=>some b
 | _=>none
def evPick (nt:Nat) (o:Oper) (σ:AState) (x a b:Operand) (r:Orc):Option Ev :=
 match opv σ x,r with
 | .bool bc,.cond b'=>qv nt o (bif b' then opv σ a else opv σ b) (opr x ++ (bif b' then opr a else opr b)) [] [bc=b']
 | _,_=>none
theorem evPick_sound (x a' b':Operand) (r:Orc) (ho:o.op=.pick x a' b'):Sound P c o σ (evPick c.nt o σ x a' b' r):=by
 unfold evPick
 split
 ·rename_i bc bb hx
  refine qv_sound fun hobs τ ht _ β fp Sh a w hs=>?_
  have e:bc=bb:=hobs _ (by simp)
  subst e
  have hc:=hs.opd x
  rw [opv_agree x (fun t h=>ht t (List.mem_append_left _ h)),hx] at hc
  have hc':=hc.bool_inv
  cases bc with
  | true =>
   refine ⟨a.eval a',by simp [execOp,ho,hc',asBool,pure,Sem.run,Sem.run_bind,Result.andThen],?_⟩
   have:=hs.opd a'
   rw [opv_agree a' (fun t h=>ht t (List.mem_append_right _ h))] at this
   exact this
  | false =>
   refine ⟨a.eval b',by simp [execOp,ho,hc',asBool,pure,Sem.run,Sem.run_bind,Result.andThen],?_⟩
   have:=hs.opd b'
   rw [opv_agree b' (fun t h=>ht t (List.mem_append_right _ h))] at this
   exact this
 ·exact .none

def bitsV (op:BinOp) (k:IntKind) (x y:Int):Int :=
 match op with
 | .and=>k.wrap (BitVec.ofInt k.bits x &&& BitVec.ofInt k.bits y).toNat
 | .or=>k.wrap (BitVec.ofInt k.bits x ||| BitVec.ofInt k.bits y).toNat
 | .xor=>k.wrap (BitVec.ofInt k.bits x ^^^ BitVec.ofInt k.bits y).toNat
 | _=>k.wrap (BitVec.ofInt k.bits x &&& ~~~(BitVec.ofInt k.bits y)).toNat
def shlV (k:IntKind) (x y:Int):Int:=k.wrap (x * 2 ^ (min y.toNat k.bits))
def shrV (k:IntKind) (x y:Int):Int:=x.fdiv (2 ^ (min y.toNat k.bits))
def intV (op:BinOp) (k:IntKind) (x y:Int):AV × List Prop :=
 match op with
 | .add=>(.int k (k.wrap (x + y)),[])
 | .sub=>(.int k (k.wrap (x - y)),[])
 | .mul=>(.int k (k.wrap (x * y)),[])
 | .quo=>(.int k (k.wrap (x.tdiv y)),[y ≠ 0])
 | .rem=>(.int k (x.tmod y),[y ≠ 0])
 | .and=>(.int k (bitsV .and k x y),[])
 | .or=>(.int k (bitsV .or k x y),[])
 | .xor=>(.int k (bitsV .xor k x y),[])
 | .andNot=>(.int k (bitsV .andNot k x y),[])
 | .shl=>(.int k (shlV k x y),[0 ≤ y])
 | .shr=>(.int k (shrV k x y),[0 ≤ y])
 | .eql=>(.bool (x == y),[])
 | .neq=>(.bool (x != y),[])
 | .lss=>(.bool (decide (x < y)),[])
 | .leq=>(.bool (decide (x ≤ y)),[])
 | .gtr=>(.bool (decide (x > y)),[])
 | .geq=>(.bool (decide (x ≥ y)),[])
theorem run_intV (op:BinOp) (k k':IntKind) (x y:Int) (t:TypeId) (w:World) (hk:k=k'∨op=.shl∨op=.shr) (h:∀ p ∈ (intV op k x y).2,p) :
  ∃ u,(binOp op t (.int k x) (.int k' y)).run P w=.ok u w∧∀ Sh β,TRep w Sh β u (intV op k x y).1:=by
 have r1:∀ n,∃ u,(pure (Value.int k n):Sem Value).run P w=.ok u w∧∀ Sh β,TRep w Sh β u (.int k n):=fun n=>⟨_,rfl,fun _ _=>.base _ _ (.int k n)⟩
 have r2:∀ n,∃ u,(pure (Value.bool n):Sem Value).run P w=.ok u w∧∀ Sh β,TRep w Sh β u (.bool n):=fun n=>⟨_,rfl,fun _ _=>.base _ _ (.bool n)⟩
 cases op <;> simp only [intV,List.mem_singleton,forall_eq,List.not_mem_nil,false_implies,implies_true] at h ⊢
 case shl=>rw [binOp,Op.shift,if_neg (by omega)]; exact r1 _
 case shr=>rw [binOp,Op.shift,if_neg (by omega)]; exact r1 _
 all_goals
  have hk':k=k':=by rcases hk with h | h | h <;> first | exact h | cases h
  subst hk'
  simp only [binOp,ne_eq,not_true_eq_false,if_false]
 case add=>exact r1 _
 case sub=>exact r1 _
 case mul=>exact r1 _
 case quo=>rw [Op.intDiv,if_neg h]; exact r1 _
 case rem=>rw [Op.intDiv,if_neg h]; exact r1 _
 case and=>exact r1 _
 case or=>exact r1 _
 case xor=>exact r1 _
 case andNot=>exact r1 _
 case eql=>exact r2 _
 case neq=>exact r2 _
 case lss=>exact r2 _
 case leq=>exact r2 _
 case gtr=>exact r2 _
 case geq=>exact r2 _

def strV (op:BinOp) (x y:ByteArray):Option (AV × List Prop) :=
 match op with
 | .add=>some (.str (x ++ y),[((x.size + y.size:Nat):Int) ≤ 9223372036854775807])
 | .eql=>some (.bool (x.toList == y.toList),[])
 | .neq=>some (.bool (!(x.toList == y.toList)),[])
 | .lss=>some (.bool (Op.bytesLess x.toList y.toList),[])
 | _=>none
theorem run_strV (op:BinOp) (x y:ByteArray) (t:TypeId) (w:World) (r:AV × List Prop) (hr:strV op x y=some r) (h:∀ p ∈ r.2,p) :
  ∃ u,(binOp op t (.string x) (.string y)).run P w=.ok u w∧∀ Sh β,TRep w Sh β u r.1:=by
 cases op <;> simp only [strV,Option.some.injEq,reduceCtorEq] at hr <;> subst hr
 case add =>
  have h1:¬ (((x.size + y.size:Nat):Int) > IntKind.i64.max):=by
   have:=h _ (List.mem_singleton.2 rfl); have e:IntKind.i64.max=9223372036854775807:=by decide
   rw [e]; omega
  refine ⟨.string (x ++ y),?_,fun _ _=>.base _ _ (.str _)⟩
  simp only [binOp,Op.stringOp]
  rw [if_neg h1]; rfl
 case eql=>exact ⟨_,rfl,fun _ _=>.base _ _ (.bool _)⟩
 case neq=>exact ⟨_,rfl,fun _ _=>.base _ _ (.bool _)⟩
 case lss=>exact ⟨_,rfl,fun _ _=>.base _ _ (.bool _)⟩

def evBin (TI:Nat→Option TInfo) (nt:Nat) (o:Oper) (σ:AState) (op:BinOp) (t:Nat) (x y:Operand):Option Ev :=
 match opv σ x,opv σ y with
 | .int k a,.int k' b=>bif (k == k' || op == .shl || op == .shr) then qv nt o (intV op k a b).1 (opr x ++ opr y) [] (intV op k a b).2 else none
 | .str a,.str b =>
  match strV op a b with
  | some r=>qv nt o r.1 (opr x ++ opr y) [] r.2
  | none=>none
 | .bool a,.bool b =>
  match op,shp TI t with
  | .eql,some .bool=>qv nt o (.bool (a == b)) (opr x ++ opr y) [] []
  | .neq,some .bool=>qv nt o (.bool (!(a == b))) (opr x ++ opr y) [] []
  | _,_=>none
 | .nilp,.nilp =>
  match op,shp TI t with
  | .eql,some (.pointer _)=>qv nt o (.bool true) (opr x ++ opr y) [] []
  | .neq,some (.pointer _)=>qv nt o (.bool false) (opr x ++ opr y) [] []
  | _,_=>none
 | .ptr _ _,.nilp =>
  match op,shp TI t with
  | .eql,some (.pointer _)=>qv nt o (.bool false) (opr x ++ opr y) [] []
  | .neq,some (.pointer _)=>qv nt o (.bool true) (opr x ++ opr y) [] []
  | _,_=>none
 | .sl xs,.nils =>
  match op,shp TI t with
  | .eql,some (.slice _)=>qv nt o (.nilq xs) (opr x ++ opr y) [] []
  | _,_=>none
 | _,_=>none

theorem run_eqGuard_pass (op:BinOp) (t:TypeId) (x y:Operand) (a b:Value) (w:World) (h1:a ≠ .nilIface) (h2:∀ cs,a ≠ .agg cs):(eqGuard op t x y a b).run P w=.ok () w:=by
 unfold eqGuard
 cases op <;> simp [pure,Sem.run,Sem.run_bind,Result.andThen] <;> (cases a <;> first | exact absurd rfl h1 | exact absurd rfl (h2 _) | rfl)

theorem run_equalIn_bool (n:Nat) {t:Nat} (w:World) (hd:(underlying t).run P w=.ok .bool w) (a b:Bool):(Op.equalIn (n + 1) t (.bool a) (.bool b)).run P w=.ok (a == b) w:=by
 simp only [Op.equalIn,Sem.run_bind,hd,Result.andThen]
 rfl
theorem run_equalIn_nilp (n:Nat) {t e:Nat} (w:World) (hd:(underlying t).run P w=.ok (.pointer e) w) (a:Option Addr):(Op.equalIn (n + 1) t (.pointer a) (.pointer none)).run P w=.ok a.isNone w:=by
 cases a <;> simp only [Op.equalIn,Sem.run_bind,hd,Result.andThen] <;> rfl
theorem run_equal_bool {TI:Nat→Option TInfo} (hTI:TIok P TI) {t:Nat} (ht:shp TI t=some .bool) (a b:Bool) (w:World):(Op.equal t (.bool a) (.bool b)).run P w=.ok (a == b) w:=by
 obtain ⟨i,hi,ht⟩:=shp_of ht
 obtain ⟨d,hd,h2⟩:=ti_run_under hTI hi w
 rw [ht] at h2
 have hdb:d=.bool:=by cases d <;> simp [shapeOf] at h2 <;> rfl
 subst hdb
 exact run_equalIn_bool 9999 w hd a b
theorem run_equal_nilp {TI:Nat→Option TInfo} (hTI:TIok P TI) {t e:Nat} (ht:shp TI t=some (.pointer e)) (a:Option Addr) (w:World):(Op.equal t (.pointer a) (.pointer none)).run P w=.ok a.isNone w:=by
 obtain ⟨i,hi,ht⟩:=shp_of ht
 obtain ⟨d,hd,h2⟩:=ti_run_under hTI hi w
 rw [ht] at h2
 have hdb:∃ e',d=.pointer e':=by cases d <;> simp [shapeOf] at h2 <;> exact ⟨_,rfl⟩
 obtain ⟨e',rfl⟩:=hdb
 exact run_equalIn_nilp 9999 w hd a

theorem run_equalIn_nils (n:Nat) {t e:Nat} (w:World) (hd:(underlying t).run P w=.ok (.slice e) w) (a:Option Addr) (l c:Nat):(Op.equalIn (n + 1) t (.slice a l c) (.slice none 0 0)).run P w=.ok a.isNone w:=by
 cases a <;> simp only [Op.equalIn,Sem.run_bind,hd,Result.andThen] <;> rfl
theorem run_equal_nils {TI:Nat→Option TInfo} (hTI:TIok P TI) {t e:Nat} (ht:shp TI t=some (.slice e)) (a:Option Addr) (l c:Nat) (w:World):(Op.equal t (.slice a l c) (.slice none 0 0)).run P w=.ok a.isNone w:=by
 obtain ⟨i,hi,ht⟩:=shp_of ht
 obtain ⟨d,hd,h2⟩:=ti_run_under hTI hi w
 rw [ht] at h2
 have hdb:∃ e',d=.slice e':=by cases d <;> simp [shapeOf] at h2 <;> exact ⟨_,rfl⟩
 obtain ⟨e',rfl⟩:=hdb
 exact run_equalIn_nils 9999 w hd a l c

theorem evBin_sound {TI:Nat→Option TInfo} (hTI:TIok P TI) (op:BinOp) (t:Nat) (x y:Operand) (ty:TypeId) (ho:o.op=.binOp op t x y ty):Sound P c o σ (evBin TI c.nt o σ op t x y):=by
 have opx:∀ {τ:AState},(∀ t ∈ opr x ++ opr y,τ.T t=σ.T t)→opv τ x=opv σ x:=fun ht=>opv_agree x (fun t h=>ht t (List.mem_append_left _ h))
 have opy:∀ {τ:AState},(∀ t ∈ opr x ++ opr y,τ.T t=σ.T t)→opv τ y=opv σ y:=fun ht=>opv_agree y (fun t h=>ht t (List.mem_append_right _ h))
 have fin:∀ (a:Act) (w:World) (u:Value),a.eval x ≠ .nilIface→(∀ cs,a.eval x ≠ .agg cs)→(binOp op t (a.eval x) (a.eval y)).run P w=.ok u w→(execOp a.eval o).run P w=.ok (.value u) w:=by
  intro a w u h1 h2 h3
  simp only [execOp,ho,Sem.run_bind,run_eqGuard_pass op t x y _ _ w h1 h2,Result.andThen,h3]
  rfl
 unfold evBin
 split
 ·rename_i k a' k' b' hx hy
  refine .ite (fun hk=>qv_sound fun hobs τ ht _ β fp Sh a w hs=>?_) (fun _=>.none)
  have h1:=hs.opd x; rw [opx ht,hx] at h1
  have h2:=hs.opd y; rw [opy ht,hy] at h2
  have e1:=h1.int_inv; have e2:=h2.int_inv
  obtain ⟨u,hr,hu⟩:=run_intV (P:=P) op k k' a' b' t w (by simp only [Bool.or_eq_true,beq_iff_eq] at hk; rcases hk with (h | h) | h <;> simp [h]) hobs
  exact ⟨u,fin a w u (by rw [e1]; simp) (by rw [e1]; simp) (by rw [e1,e2]; exact hr),hu Sh β⟩
 ·rename_i a' b' hx hy
  split
  ·rename_i r hr
   refine qv_sound fun hobs τ ht _ β fp Sh a w hs=>?_
   have h1:=hs.opd x; rw [opx ht,hx] at h1
   have h2:=hs.opd y; rw [opy ht,hy] at h2
   have e1:=h1.str_inv; have e2:=h2.str_inv
   obtain ⟨u,hr',hu⟩:=run_strV (P:=P) op a' b' t w r hr hobs
   exact ⟨u,fin a w u (by rw [e1]; simp) (by rw [e1]; simp) (by rw [e1,e2]; exact hr'),hu Sh β⟩
  ·exact .none
 ·rename_i a' b' hx hy
  split
  ·rename_i hsh
   refine qv_sound fun hobs τ ht _ β fp Sh a w hs=>?_
   have h1:=hs.opd x; rw [opx ht,hx] at h1
   have h2:=hs.opd y; rw [opy ht,hy] at h2
   have e1:=h1.bool_inv; have e2:=h2.bool_inv
   refine ⟨_,fin a w (.bool (a' == b')) (by rw [e1]; simp) (by rw [e1]; simp) ?_,.base _ _ (.bool _)⟩
   rw [e1,e2]; simp only [binOp,Sem.run_bind,run_equal_bool hTI hsh,Result.andThen]; rfl
  ·rename_i hsh
   refine qv_sound fun hobs τ ht _ β fp Sh a w hs=>?_
   have h1:=hs.opd x; rw [opx ht,hx] at h1
   have h2:=hs.opd y; rw [opy ht,hy] at h2
   have e1:=h1.bool_inv; have e2:=h2.bool_inv
   refine ⟨_,fin a w (.bool (!(a' == b'))) (by rw [e1]; simp) (by rw [e1]; simp) ?_,.base _ _ (.bool _)⟩
   rw [e1,e2]; simp only [binOp,Sem.run_bind,run_equal_bool hTI hsh,Result.andThen]; rfl
  ·exact .none
 ·rename_i hx hy
  split
  ·rename_i e hsh
   refine qv_sound fun hobs τ ht _ β fp Sh a w hs=>?_
   have h1:=hs.opd x; rw [opx ht,hx] at h1
   have h2:=hs.opd y; rw [opy ht,hy] at h2
   have e1:=h1.nilp_inv; have e2:=h2.nilp_inv
   refine ⟨_,fin a w (.bool true) (by rw [e1]; simp) (by rw [e1]; simp) ?_,.base _ _ (.bool _)⟩
   rw [e1,e2]; simp only [binOp,Sem.run_bind,run_equal_nilp hTI hsh,Result.andThen]; rfl
  ·rename_i e hsh
   refine qv_sound fun hobs τ ht _ β fp Sh a w hs=>?_
   have h1:=hs.opd x; rw [opx ht,hx] at h1
   have h2:=hs.opd y; rw [opy ht,hy] at h2
   have e1:=h1.nilp_inv; have e2:=h2.nilp_inv
   refine ⟨_,fin a w (.bool false) (by rw [e1]; simp) (by rw [e1]; simp) ?_,.base _ _ (.bool _)⟩
   rw [e1,e2]; simp only [binOp,Sem.run_bind,run_equal_nilp hTI hsh,Result.andThen]; rfl
  ·exact .none
 ·rename_i cs off hx hy
  split
  ·rename_i e hsh
   refine qv_sound fun hobs τ ht _ β fp Sh a w hs=>?_
   have h1:=hs.opd x; rw [opx ht,hx] at h1
   have h2:=hs.opd y; rw [opy ht,hy] at h2
   obtain ⟨b,o',f,e1,_⟩:=h1.ptr_inv; have e2:=h2.nilp_inv
   refine ⟨_,fin a w (.bool false) (by rw [e1]; simp) (by rw [e1]; simp) ?_,.base _ _ (.bool _)⟩
   rw [e1,e2]; simp only [binOp,Sem.run_bind,run_equal_nilp hTI hsh,Result.andThen]; rfl
  ·rename_i e hsh
   refine qv_sound fun hobs τ ht _ β fp Sh a w hs=>?_
   have h1:=hs.opd x; rw [opx ht,hx] at h1
   have h2:=hs.opd y; rw [opy ht,hy] at h2
   obtain ⟨b,o',f,e1,_⟩:=h1.ptr_inv; have e2:=h2.nilp_inv
   refine ⟨_,fin a w (.bool true) (by rw [e1]; simp) (by rw [e1]; simp) ?_,.base _ _ (.bool _)⟩
   rw [e1,e2]; simp only [binOp,Sem.run_bind,run_equal_nilp hTI hsh,Result.andThen]; rfl
  ·exact .none
 ·rename_i xs hx hy
  split
  ·rename_i e hsh
   refine qv_sound fun hobs τ ht _ β fp Sh a w hs=>?_
   have h1:=hs.opd x; rw [opx ht,hx] at h1
   have h2:=hs.opd y; rw [opy ht,hy] at h2
   have e2:=h2.nils_inv
   have key:∀ A l cp,a.eval x=.slice A l cp→(A.isNone=true→xs=[])→∃ u,(execOp a.eval o).run P w=.ok (.value u) w∧TRep w Sh β u (.nilq xs):=fun A l cp e1 hn=>by
    refine ⟨_,fin a w (.bool A.isNone) (by rw [e1]; simp) (by rw [e1]; simp) ?_,.base _ _ (.nilq _ _ hn)⟩
    rw [e1,e2]; simp only [binOp,Sem.run_bind,run_equal_nils hTI hsh,Result.andThen]; rfl
   have h3:=h1.sl_inv
   generalize hv:a.eval x=v at h3
   cases h3 with
   | sl0 A cp=>exact key _ _ _ hv (fun _=>rfl)
   | sl1 b o' cp sz xs f hb hc hz hm hh=>exact key _ _ _ hv (fun h=>by cases h)
  ·exact .none
 ·exact .none

def evUn (nt:Nat) (o:Oper) (σ:AState) (op:UnOp) (x:Operand):Option Ev :=
 match op,opv σ x with
 | .not,.bool b=>qv nt o (.bool (!b)) (opr x) [] []
 | .neg,.int k n=>qv nt o (.int k (k.wrap (0 - n))) (opr x) [] []
 | _,_=>none
theorem evUn_sound (op:UnOp) (t:TypeId) (x:Operand) (ho:o.op=.unOp op t x):Sound P c o σ (evUn c.nt o σ op x):=by
 unfold evUn
 split
 ·rename_i b hx
  refine qv_sound fun hobs τ ht _ β fp Sh a w hs=>?_
  have h1:=hs.opd x; rw [opv_agree x ht,hx] at h1
  have e1:=h1.bool_inv
  exact ⟨.bool (!b),by simp [execOp,ho,e1,Op.unary,pure,Sem.run,Sem.run_bind,Result.andThen],.base _ _ (.bool _)⟩
 ·rename_i k n hx
  refine qv_sound fun hobs τ ht _ β fp Sh a w hs=>?_
  have h1:=hs.opd x; rw [opv_agree x ht,hx] at h1
  have e1:=h1.int_inv
  exact ⟨.int k (k.wrap (0 - n)),by simp [execOp,ho,e1,Op.unary,Op.intArith,pure,Sem.run,Sem.run_bind,Result.andThen],.base _ _ (.int _ _)⟩
 ·exact .none

def evConv (TI:Nat→Option TInfo) (nt:Nat) (o:Oper) (σ:AState) (src dst:Nat) (x:Operand):Option Ev :=
 match opv σ x,shp TI src,shp TI dst with
 | .int _ n,some (.int _),some (.int k)=>qv nt o (.int k (k.wrap n)) (opr x) [] []
 | _,_,_=>none
theorem evConv_sound {TI:Nat→Option TInfo} (hTI:TIok P TI) (src dst:Nat) (x:Operand) (ho:o.op=.convert src dst x):Sound P c o σ (evConv TI c.nt o σ src dst x):=by
 unfold evConv
 split
 ·rename_i k0 n k1 k hx hs1 hs2
  refine qv_sound fun hobs τ ht _ β fp Sh a w hs=>?_
  have h1:=hs.opd x; rw [opv_agree x ht,hx] at h1
  have e1:=h1.int_inv
  obtain ⟨i,hi,hs1⟩:=shp_of hs1
  obtain ⟨j,hj,hs2⟩:=shp_of hs2
  obtain ⟨d1,hd1,h2⟩:=ti_run_under hTI hi w
  obtain ⟨d2,hd2,h3⟩:=ti_run_under hTI hj w
  rw [hs1] at h2; rw [hs2] at h3
  have:d1=.int k1:=by cases d1 <;> simp [shapeOf] at h2 <;> simp [h2]
  subst this
  have:d2=.int k:=by cases d2 <;> simp [shapeOf] at h3 <;> simp [h3]
  subst this
  refine ⟨.int k (k.wrap n),?_,.base _ _ (.int _ _)⟩
  simp only [execOp,ho,e1,convert,Sem.run_bind,hd1,hd2,Result.andThen,Conv.intToInt]
  rfl
 ·exact .none

def evExtract (nt:Nat) (o:Oper) (σ:AState) (x:Operand) (ix:Nat):Option Ev :=
 match opv σ x with
 | .tup vs=>bif Nat.blt ix vs.length then qv nt o (av vs ix) (opr x) [] [] else none
 | _=>none
theorem evExtract_sound (x:Operand) (ix:Nat) (ho:o.op=.extract x ix):Sound P c o σ (evExtract c.nt o σ x ix):=by
 unfold evExtract
 split
 ·rename_i vs hx
  refine .ite (fun hk=>qv_sound fun hobs τ ht _ β fp Sh a w hs=>?_) (fun _=>.none)
  have hk:ix < vs.length:=by simpa [Nat.blt_eq] using hk
  have h1:=hs.opd x; rw [opv_agree x ht,hx] at h1
  obtain ⟨cc,e1,hsz,hh⟩:=h1.tup_inv
  refine ⟨cc.getD ix undef,?_,hh ix hk⟩
  have hi:ix < cc.size:=by omega
  simp [execOp,ho,e1,Instr.extract,hi,pure,Sem.run,Sem.run_bind,Result.andThen]
 ·exact .none

def evNilCheck (nt:Nat) (o:Oper) (σ:AState) (x:Operand):Option Ev :=
 match opv σ x with
 | .ptr cs off=>qv nt o (.ptr cs off) (opr x) [] []
 | .ra id off=>qv nt o (.ra id off) (opr x) [] []
 | .ea id sz i off=>qv nt o (.ea id sz i off) (opr x) [] []
 | .fn f cs=>qv nt o (.fn f cs) (opr x) [] []
 | _=>none
theorem evNilCheck_sound (x:Operand) (ho:o.op=.nilCheck x):Sound P c o σ (evNilCheck c.nt o σ x):=by
 unfold evNilCheck
 split
 ·rename_i cs off hx
  refine qv_sound fun hobs τ ht _ β fp Sh a w hs=>?_
  have h1:=hs.opd x; rw [opv_agree x ht,hx] at h1
  obtain ⟨b,o',f,e1,_⟩:=h1.ptr_inv
  exact ⟨_,by simp [execOp,ho,e1,pure,Sem.run],e1 ▸ h1⟩
 ·rename_i id off hx
  refine qv_sound fun hobs τ ht _ β fp Sh a w hs=>?_
  have h1:=hs.opd x; rw [opv_agree x ht,hx] at h1
  obtain ⟨g,_,e1⟩:=h1.ra_inv
  exact ⟨_,by simp [execOp,ho,e1,pure,Sem.run],e1 ▸ h1⟩
 ·rename_i id sz i off hx
  refine qv_sound fun hobs τ ht _ β fp Sh a w hs=>?_
  have h1:=hs.opd x; rw [opv_agree x ht,hx] at h1
  obtain ⟨g,n,c',_,e1⟩:=h1.ea_inv
  exact ⟨_,by simp [execOp,ho,e1,pure,Sem.run],e1 ▸ h1⟩
 ·rename_i f cs hx
  refine qv_sound fun hobs τ ht _ β fp Sh a w hs=>?_
  have h1:=hs.opd x; rw [opv_agree x ht,hx] at h1
  obtain ⟨c',e1,_⟩:=h1.fn_inv
  exact ⟨_,by simp [execOp,ho,e1,pure,Sem.run],e1 ▸ h1⟩
 ·exact .none

def evIndexS (TI:Nat→Option TInfo) (nt:Nat) (o:Oper) (σ:AState) (t:Nat) (x y:Operand):Option Ev :=
 match opv σ x,opv σ y,shp TI t with
 | .str s,.int _ i,some .string=>qv nt o (.int .u8 ((s.data.getD i.toNat 0).toNat:Int)) (opr x ++ opr y) [] [0 ≤ i∧i < (s.size:Int)]
 | _,_,_=>none
theorem evIndexS_sound {TI:Nat→Option TInfo} (hTI:TIok P TI) (t:Nat) (x y:Operand) (ho:o.op=.index t x y):Sound P c o σ (evIndexS TI c.nt o σ t x y):=by
 unfold evIndexS
 split
 ·rename_i s k i hx hy hsh
  refine qv_sound fun hobs τ ht _ β fp Sh a w hs=>?_
  have h1:=hs.opd x; rw [opv_agree x (fun t h=>ht t (List.mem_append_left _ h)),hx] at h1
  have h2:=hs.opd y; rw [opv_agree y (fun t h=>ht t (List.mem_append_right _ h)),hy] at h2
  have e1:=h1.str_inv; have e2:=h2.int_inv
  have hb:=hobs _ (List.mem_singleton.2 rfl)
  obtain ⟨ii,hi,hsh⟩:=shp_of hsh
  obtain ⟨d,hd,h3⟩:=ti_run_under hTI hi w
  rw [hsh] at h3
  have:d=.string:=by cases d <;> simp [shapeOf] at h3 <;> rfl
  subst this
  have hlt:i.toNat < s.size:=by omega
  have hg:s[i.toNat]?=some (s.data.getD i.toNat 0):=by
   have h':i.toNat < s.data.size:=hlt
   rw [show s[i.toNat]?=some s[i.toNat] from getElem?_pos s i.toNat hlt]
   simp only [Array.getD,h',dif_pos]
   rfl
  refine ⟨.int .u8 ((s.data.getD i.toNat 0).toNat:Int),?_,.base _ _ (.int _ _)⟩
  simp only [execOp,ho,e1,e2,Instr.index,asIntOf,Sem.run_bind,hd,Result.andThen,Sem.run_pure,if_pos hb.1,hg]
 ·exact .none

def evMakeFunc (nt:Nat) (o:Oper) (σ:AState) (f:FuncId) (caps:List Operand):Option Ev:=qv nt o (.fn f (caps.map (opv σ))) (caps.flatMap opr) [] []
theorem evMakeFunc_sound (f:FuncId) (caps:Array Operand) (ho:o.op=.makeFunc (.func f) #[] caps):Sound P c o σ (evMakeFunc c.nt o σ f caps.toList):=by
 refine qv_sound fun hobs τ ht _ β fp Sh a w hs=>⟨.func (.func f) #[] (caps.map a.eval),by simp [execOp,ho,Instr.makeFunc,pure,Sem.run,Sem.run_bind,Result.andThen],?_⟩
 refine .fn f _ _ (by simp) (fun i hi=>?_)
 have hi':i < caps.size:=by simpa using hi
 have e1:(caps.map a.eval).getD i undef=a.eval caps[i]:=by simp [Array.getD,hi']
 have e2:av (caps.toList.map (opv σ)) i=opv σ caps[i]:=by simp [av,List.getD_eq_getElem?_getD,hi']
 rw [e1,e2,← opv_agree caps[i] (fun t h=>ht t (List.mem_flatMap.2 ⟨caps[i],by simp,h⟩))]
 exact hs.opd _

def plainE:AV→Bool
 | .int _ _ | .bool _ | .str _ | .nils | .nilp | .sl _ | .ptr _ _=>true
 | _=>false
def okB:AV→Bool
 | .agg cs=>cs.all plainE
 | x=>plainE x
theorem okB_rep {w:World} {Sh:Nat→Prop} {β:Nat→Value} {v:Value} {x:AV} (h:TRep w Sh β v x) (hx:okB x=true):SRep w Sh v x:=by
 have leaf:∀ {v:Value} {x:AV},TRep w Sh β v x→plainE x=true→SRep w Sh v x:=fun {v x} h hp=>by
  cases h with
  | base _ _ h=>exact h
  | _=>simp [plainE] at hp
 cases x with
 | agg cs =>
  obtain ⟨c,rfl,hs,hh⟩:=h.agg_inv
  simp only [okB,List.all_eq_true] at hx
  refine .agg c cs hs (fun i hi=>leaf (hh i hi) (hx _ ?_))
  have:av cs i=cs[i]:=by simp [av,List.getD_eq_getElem?_getD,hi]
  rw [this]; exact List.getElem_mem hi
 | _=>exact leaf h hx
def evMakeB (nt:Nat) (o:Oper) (σ:AState) (f:FuncId) (fs:List Operand):Option Ev:=bif (fs.map (opv σ)).all okB then qv nt o (.fnb f (fs.map (opv σ))) (fs.flatMap opr) [] [] else none
theorem evMakeB_sound (f:FuncId) (fs:Array Operand) (ho:o.op=.makeFunc (.func f) fs #[]):Sound P c o σ (evMakeB c.nt o σ f fs.toList):=by
 refine .ite (fun hb=>?_) (fun _=>.none)
 rw [List.all_eq_true] at hb
 refine qv_sound fun hobs τ ht _ β fp Sh a w hs=>⟨.func (.func f) (fs.map a.eval) #[],by simp [execOp,ho,Instr.makeFunc,pure,Sem.run,Sem.run_bind,Result.andThen],?_⟩
 refine .base _ _ (.fnb f _ _ (by simp) (fun i hi=>?_))
 have hi':i < fs.size:=by simpa using hi
 have e1:(fs.map a.eval).getD i undef=a.eval fs[i]:=by simp [Array.getD,hi']
 have e2:av (fs.toList.map (opv σ)) i=opv σ fs[i]:=by simp [av,List.getD_eq_getElem?_getD,hi']
 have h3:=hs.opd fs[i]
 rw [opv_agree fs[i] (fun t h=>ht t (List.mem_flatMap.2 ⟨fs[i],by simp,h⟩))] at h3
 rw [e1,e2]
 exact okB_rep h3 (hb _ (List.mem_map.2 ⟨fs[i],by simp,rfl⟩))
end

end Go.Am
