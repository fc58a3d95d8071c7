/- An error, compared with nil; a row of one byte, made a string; functions of the library that are met by their contracts. -/
import Derived.Test.YtifijafaaljamaaDoorAmO
import Derived.Laws.BytesArg
import Derived.Lib.Atoi
import Derived.Lib.ItoaNum
set_option linter.unusedSimpArgs false
set_option linter.unusedVariables false
namespace Go.Am
open Go.RowKit

section
variable {P:Program} {c:Ctx} {o:Oper} {σ:Q0d}

def IfT (P:Program) (t:TypeId):Prop:=(match P.underlying t with | some (.interface _)=>true | _=>false)=true
theorem IfT.ms {P:Program} {t:TypeId} (h:IfT P t):∃ ms,P.underlying t=some (.interface ms):=by
 unfold IfT at h
 split at h
 ·exact ⟨_,by assumption⟩
 ·cases h
def Q8u:Operand→Bool
 | .const .nilIface=>true
 | _=>false
def Q8v:AV→Bool
 | .err _=>true
 | _=>false
def Q8w (nt:Nat) (o:Oper) (σ:Q0d) (op:BinOp) (t:Nat) (x y:Operand) (P:Program):Option Ev :=
 bif Q8u y then
  match opv σ x,op with
  | .err b,.eql=>qv nt o (.bool (!b)) (opr x) [] [IfT P t]
  | .err b,.neq=>qv nt o (.bool b) (opr x) [] [IfT P t]
  | _,_=>none
 else none
theorem Q8x {t:Nat} (hT:IfT P t) {b:Bool} {v:Value} (h:Q00 b v=true) (w:World):(Op.equal t v .nilIface).run P w=.ok (!b) w:=by
 obtain ⟨ms,hT⟩:=hT.ms
 have hd:(underlying t).run P w=.ok (.interface ms) w:=by
  simp only [underlying,program,Sem.run_bind]
  simp [Sem.run,hT,Result.andThen,pure]
 have:∀ n,(Op.equalIn (n + 1) t v .nilIface).run P w=.ok (!b) w:=fun n=>by
  cases b <;> cases v <;> first | (simp [Q00] at h; done) | (simp only [Op.equalIn,Sem.run_bind,hd,Result.andThen]; rfl)
 exact this 9999
theorem Q0i.err_inv {w:World} {Sh:Nat→Prop} {β:Nat→Value} {v:Value} {b:Bool} (h:Q0i w Sh β v (.err b)):Q00 b v=true:=by
 cases h with | base _ _ h=>cases h with | err _ _ h=>exact h
theorem Q8y (op:BinOp) (t:Nat) (x y:Operand) (ty:TypeId) (ho:o.op=.binOp op t x y ty):Q2o P c o σ (Q8w c.nt o σ op t x y P):=by
 unfold Q8w
 refine .ite (fun hk=>?_) (fun _=>.none)
 obtain rfl:y=.const .nilIface:=by cases y <;> first | (simp [Q8u] at hk; done) | (rename_i v; cases v <;> first | rfl | (simp [Q8u] at hk; done))
 have guard:∀ (a:Act) (w:World) (v:Value) (b:Bool),Q00 b v=true→(eqGuard op t x (.const .nilIface) v .nilIface).run P w=.ok () w:=by
  intro a w v b h
  unfold eqGuard
  cases b <;> cases v <;> first | (simp [Q00] at h; done) | (cases op <;> simp [pure,Sem.run,Sem.run_bind,Result.andThen] <;> rfl) | skip
 split
 ·rename_i b hx
  refine Q2p fun hobs τ ht _ β fp Sh a w hs=>?_
  have h1:=hs.opd x; rw [Q2k x ht,hx] at h1
  have h2:=h1.err_inv
  refine ⟨.bool (!b),?_,.base _ _ (.bool _)⟩
  have he:a.eval (.const .nilIface)=.nilIface:=rfl
  have hq:=Q8x (hobs _ List.mem_cons_self) h2 w
  simp only [execOp,ho,he,Sem.run_bind,guard a w _ b h2,Result.andThen]
  have:(binOp .eql t (a.eval x) .nilIface).run P w=.ok (.bool (!b)) w:=by
   cases b <;> cases hv:a.eval x <;> rw [hv] at h2 hq <;> first | (simp [Q00] at h2; done) | (simp only [binOp,Sem.run_bind,hq,Result.andThen]; rfl)
  rw [this]; rfl
 ·rename_i b hx
  refine Q2p fun hobs τ ht _ β fp Sh a w hs=>?_
  have h1:=hs.opd x; rw [Q2k x ht,hx] at h1
  have h2:=h1.err_inv
  refine ⟨.bool b,?_,.base _ _ (.bool _)⟩
  have he:a.eval (.const .nilIface)=.nilIface:=rfl
  have hq:=Q8x (hobs _ List.mem_cons_self) h2 w
  simp only [execOp,ho,he,Sem.run_bind,guard a w _ b h2,Result.andThen]
  have:(binOp .neq t (a.eval x) .nilIface).run P w=.ok (.bool b) w:=by
   cases b <;> cases hv:a.eval x <;> rw [hv] at h2 hq <;> first | (simp [Q00] at h2; done) | (simp only [binOp,Sem.run_bind,hq,Result.andThen]; rfl)
  rw [this]; rfl
 ·exact .none

def Q8z:AV→Option Nat
 | .rs id=>some id
 | _=>none
def Q90 (TI:Nat→Option Q1r) (nt:Nat) (o:Oper) (σ:Q0d) (src dst:Nat) (x:Operand):Option Ev :=
 match opv σ x,shp TI src,shp TI dst with
 | .rs id,some (.slice e),some .string =>
  match σ.O id,shp TI e with
  | some (.arr [.int .u8 n]),some (.int .u8)=>qv nt o (.str (strOfNums [n])) (opr x) [id] []
  | _,_=>none
 | _,_,_=>none
theorem Q04.u8_inv {w:World} {Sh S:Nat→Prop} {v:Value} {k:IntKind} {n:Int} (h:Q04 w Sh S v (.int k n)):v=.int k n:=by
 cases h with | val _ _ _ h=>cases h; rfl
theorem Q91 {TI:Nat→Option Q1r} (hTI:Q20 P TI) (src dst:Nat) (x:Operand) (ho:o.op=.convert src dst x):Q2o P c o σ (Q90 TI c.nt o σ src dst x):=by
 unfold Q90
 split
 ·rename_i id e hx hs1 hs2
  split
  ·rename_i n hO hs3
   refine Q2p fun hobs τ ht hk β fp Sh a w hs=>?_
   have h1:=hs.opd x; rw [Q2k x ht,hx] at h1
   have e1:=h1.rs_inv
   have hO2:τ.O id=some (.arr [.int .u8 n]):=by rw [hk id (by simp)]; exact hO
   have h2:Q04 w Sh (fp id) (β id) (.osl [.int .u8 n]):=hs.ob id _ hO2
   obtain ⟨i,hi,hs1⟩:=Q2l hs1
   obtain ⟨j,hj,hs2⟩:=Q2l hs2
   obtain ⟨q,hq,hs3⟩:=Q2l hs3
   obtain ⟨d1,hd1,h3⟩:=Q22 hTI hi
   obtain ⟨d2,hd2,h4⟩:=Q22 hTI hj
   obtain ⟨d3,hd3,h5⟩:=Q22 hTI hq
   rw [hs1] at h3; rw [hs2] at h4; rw [hs3] at h5
   have:d1=.slice e:=by cases d1 <;> simp [Q1q] at h3 <;> simp [h3]
   subst this
   have:d2=.string:=by cases d2 <;> simp [Q1q] at h4 <;> rfl
   subst this
   have:d3=.int .u8:=by cases d3 <;> simp [Q1q] at h5 <;> simp [h5]
   subst this
   refine ⟨.string (strOfNums [n]),?_,.base _ _ (.str _)⟩
   simp only [execOp,ho,e1,Sem.run_bind]
   generalize β id=v at h2
   cases h2 with
   | val _ _ _ h=>cases h
   | osl S g cp sz et cur xs Si hg hc hc0 hm hss hz hr hSg hSS hdd =>
    have hz1:sz=1:=(hz 0 (by simp)).symm
    subst hz1
    have hcell:=hr 0 0 (by simp) (by simp [av,cellsOf])
    have hv:cur.getD (0 * 1 + 0) undef=.int .u8 n:=Q04.u8_inv hcell
    have hsz:0 < cur.size:=by simp at hc; omega
    have:=run_convert_bytes_arg (P:=P) w src e hd1 hd3 g 0 1 cp [n] rfl (fun i hi=>by
     have:i=0:=by omega
     subst this
     have hc2:=Q0a hg 0 hsz
     simp only [Nat.zero_mul,Nat.add_zero] at hv
     rw [hv] at hc2
     simpa using hc2) dst hd2
    simp only [List.length_cons,List.length_nil,Nat.zero_add]
    rw [this]
    rfl
  ·exact .none
 ·exact .none
end

def Q92 (s:ByteArray):Option (Int × Bool):=if s.size ≤ 18 then (match Lib.atoi s.data.toList with | some n=>some (n,false) | none=>some (0,true)) else none
def Q93 (n:Int):Option ByteArray:=if -9223372036854775808 ≤ n∧n ≤ 9223372036854775807 then some ⟨(Lib.itoa n).toArray⟩ else none

theorem Q7a.ofStr {P:Program} {f:FuncId} {s:ByteArray} {res:AV}
  (h:∀ (w:World) (Sh:Nat→Prop),Q02 w Sh→Calls P f #[.string s] w fun e w'=>∃ v,e=.returned v∧Fr (fun _=>False) w w'∧Q03 w' Sh v res):Q7a P f [.str s] res []:=by
 intro w Sh Ss vs hSh hlen hown hSs hdj
 match vs,hlen with
 | [v],_ =>
  have h0:=hown 0 (by simp)
  have hv:v=.string s:=by cases h0 with | val _ _ _ h=>cases h; rfl
  subst hv
  refine (h w Sh hSh).mono ?_
  rintro e w' ⟨v,rfl,hfr,hres⟩
  exact ⟨v,Sh,fun _=>False,fun _ _=>False,rfl,hfr.mono (fun _ _ h=>h.elim),fun _ hb=>hb,fun b hb=>⟨Nat.lt_of_lt_of_le (hSh.lt b hb) hfr.size,.inl hb⟩,.val _ _ _ hres,
   fun i hi=>.val _ _ _ (by simp [av]; exact .undef _),fun b hb=>hb.elim,fun i b _ hb=>hb.elim,fun i b _ hb=>hb.elim,fun i i' b _ _ hb=>hb.elim⟩
theorem Q7a.ofInt {P:Program} {f:FuncId} {n:Int} {res:AV}
  (h:∀ (w:World) (Sh:Nat→Prop),Q02 w Sh→Calls P f #[.int .i64 n] w fun e w'=>∃ v,e=.returned v∧Fr (fun _=>False) w w'∧Q03 w' Sh v res):Q7a P f [.int .i64 n] res []:=by
 intro w Sh Ss vs hSh hlen hown hSs hdj
 match vs,hlen with
 | [v],_ =>
  have h0:=hown 0 (by simp)
  have hv:v=.int .i64 n:=by cases h0 with | val _ _ _ h=>cases h; rfl
  subst hv
  refine (h w Sh hSh).mono ?_
  rintro e w' ⟨v,rfl,hfr,hres⟩
  exact ⟨v,Sh,fun _=>False,fun _ _=>False,rfl,hfr.mono (fun _ _ h=>h.elim),fun _ hb=>hb,fun b hb=>⟨Nat.lt_of_lt_of_le (hSh.lt b hb) hfr.size,.inl hb⟩,.val _ _ _ hres,
   fun i hi=>.val _ _ _ (by simp [av]; exact .undef _),fun b hb=>hb.elim,fun i b _ hb=>hb.elim,fun i b _ hb=>hb.elim,fun i i' b _ _ hb=>hb.elim⟩
theorem Fr.ofBelow {w w':World} (h:Below w.heap.size w w'):Fr (fun _=>False) w w':=⟨h.os,h.tape,h.output,h.size,fun b hb _=>h.block b hb⟩
end Go.Am
