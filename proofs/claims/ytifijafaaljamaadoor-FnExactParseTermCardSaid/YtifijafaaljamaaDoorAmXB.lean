/- A call of the machine's own search for a byte in a string. -/
import Derived.Test.YtifijafaaljamaaDoorAmO
import Derived.Lib.Bytealg
set_option linter.unusedSimpArgs false
set_option linter.unusedVariables false
namespace Go.Am
open Go.RowKit

section
variable {P:Program} {c:Ctx} {o:Oper} {σ:Q0d}

def Q8r (P:Program) (f:FuncId):Prop:=∃ fn,P.funcs[f]?=some fn∧(fn.name == "runtime.NumGoroutine")=false∧fn.body.isNone=true∧Extern.findNext fn=none∧Extern.find fn=some Extern.BytealgIndexByte.indexByte
def Q8s (nt:Nat) (o:Oper) (σ:Q0d) (f:FuncId) (x y:Operand) (P:Program):Option Ev :=
 match opv σ x,opv σ y with
 | .str s,.int .u8 b=>qv nt o (.int .i64 (Lib.indexByte s.data.toList b.toNat.toUInt8)) (opr x ++ opr y) [] [Q8r P f]
 | _,_=>none
theorem Q8t (f:FuncId) (x y:Operand) (ho:Q7z P o (.func f) [x,y]):Q2o P c o σ (Q8s c.nt o σ f x y P):=by
 unfold Q8s
 split
 ·rename_i s b hx hy
  refine Q2p fun hobs τ ht _ β fp Sh a w hs=>?_
  have h1:=hs.opd x; rw [Q2k x (fun t h=>ht t (List.mem_append_left _ h)),hx] at h1
  have h2:=hs.opd y; rw [Q2k y (fun t h=>ht t (List.mem_append_right _ h)),hy] at h2
  have e1:=h1.str_inv; have e2:=h2.int_inv
  obtain ⟨fn,q1,q2,q3,q4,q5⟩:=hobs _ List.mem_cons_self
  refine ⟨_,?_,.base _ _ (.int _ _)⟩
  obtain ⟨ts,ho⟩:=ho
  have hr:=run_callFunc_extern q1 q2 q3 q4 q5 #[.string s,.int .u8 b] w
  rw [Lib.run_indexByteString] at hr
  have he:(a.eval (.func f))=.func (.func f) #[] #[]:=rfl
  simp only [execOp,ho,resolve,he,Deferred.ofValue,Sem.run_bind,Sem.run_pure,Result.andThen,invoke]
  simp only [List.map_toArray,List.map_cons,List.map_nil,e1,e2]
  simpa [Result.andThen] using hr
 ·exact .none
end
end Go.Am
