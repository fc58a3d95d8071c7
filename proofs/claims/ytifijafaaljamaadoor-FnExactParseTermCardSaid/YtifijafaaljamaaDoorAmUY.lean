/- From the body of a function that makes an empty row with room to what it is held to. -/
import Derived.Test.YtifijafaaljamaaDoorAmZB
set_option linter.unusedSimpArgs false
set_option linter.unusedVariables false
namespace Go.Am
open Go.RowKit

section
variable {P:Program}
def Qg3 (TI:Nat→Option Q1r) (fn:Func) (T:List (Nat × AV)) (O:List (Nat × Q0c)):Bool :=
 match Qcs TI (mkS T O) fn.results.toList with
 | some [.nils]=>true
 | some [.rs k]=>match lkO O k with | some (.ary [])=>true | _=>false
 | _=>false
def Qg4 (TI:Nat→Option Q1r) (fn:Func):Exit→Q0d→Prop:=fun e σ'=>(e=.ret∨e=.normal)∧∃ T O,σ'=mkS T O∧Qg3 TI fn T O=true
theorem Qg4.ret {TI:Nat→Option Q1r} {fn:Func} {T:List (Nat × AV)} {O:List (Nat × Q0c)} (h:Qg3 TI fn T O=true):Qg4 TI fn .ret (mkS T O):=⟨.inl rfl,T,O,rfl,h⟩
theorem Qg4.normal {TI:Nat→Option Q1r} {fn:Func} {T:List (Nat × AV)} {O:List (Nat × Q0c)} (h:Qg3 TI fn T O=true):Qg4 TI fn .normal (mkS T O):=⟨.inr rfl,T,O,rfl,h⟩

theorem Qas.of_body {TI:Nat→Option Q1r} (hTI:Q20 P TI) {f:FuncId} {fn:Func} {code:Code} {n:Int} (hf:P.funcs[f]?=some fn) (hb:fn.body=some code) {nt:Nat} (hnt:Nat.beq fn.ntmps nt=true) (hle:Nat.ble 2 nt=true)
  (h:∀ c:Ctx,c.nt=nt→Wp P c code (Qg4 TI fn) (mkS [(0,.nils),(1,.int .i64 n)] [])):Qas P f n:=by
 have hnt:=Nat.eq_of_beq_eq_true hnt
 have hle:=Nat.le_of_ble_eq_true hle
 subst hnt
 intro w Sh hSh
 let vs:List Value:=[.slice none 0 0,.int .i64 n]
 let c:Ctx:={ w0:=w,M:=fun _=>False,Sh0:=Sh,nt:=fn.ntmps,pin:=fun _=>undef,gk:=hSh.g,gm:=fun _ _ h=>h }
 let a:Act:={ tmps:=vs.toArray ++ Array.replicate (fn.ntmps - vs.toArray.size) undef,defers:=[] }
 have hs:SR c (fun _=>undef) (fun _ _=>False) Sh (mkS [(0,.nils),(1,.int .i64 n)] []) a w:={
  df:=rfl
  sz:=by simp [a,c,vs]; omega
  tm:=fun t=>by
   match t with
   | 0 =>
    have e:a.tmps.getD 0 undef=.slice none 0 0:=by simp [a,vs,Array.getD_eq_getD_getElem?,Array.getElem?_append]
    rw [e]; exact .base _ _ .nils
   | 1 =>
    have e:a.tmps.getD 1 undef=.int .i64 n:=by simp [a,vs,Array.getD_eq_getD_getElem?,Array.getElem?_append]
    rw [e]; exact .base _ _ (.int .i64 n)
   | t + 2=>exact .base _ _ (.undef _)
  ob:=fun id o ho=>by cases ho
  dj:=fun id id' b h1=>by cases h1
  fb:=fun id b h1=>by cases h1
  shl:=fun b hb=>⟨hSh.lt b hb,.inl hb⟩
  sh0:=fun b hb=>hb
  fr:=Fr.refl _ w
  pn:=fun k _ h=>by cases h }
 refine calls_of_wp hf hb (wp_mono (h c rfl a w ⟨_,_,Sh,hs⟩) ?_)
 rintro e a' w' ⟨σ',⟨he,T,O,rfl,hend⟩,β',fp',Sh',hs'⟩
 unfold Qg3 at hend
 have key:∃ v,(results fn a'.tmps).run P w'=.ok v w'∧∃ (v':Value) (S':Nat→Prop),Ending.returned v=.returned v'∧Fr (fun _=>False) w w'∧Q0l w' Sh S' v' []∧∀ b,S' b→w.heap.size ≤ b∧b < w'.heap.size:=by
  have one:∀ r,Qcs TI (mkS T O) fn.results.toList=some [r]→∃ u,(results fn a'.tmps).run P w'=.ok u w'∧Q0i w' Sh' β' u r:=by
   intro r hret
   obtain ⟨us,hrun,hul,hur⟩:=Qcu hTI hs' _ _ hret
   have hrv:(results fn a'.tmps).run P w'=.ok (if h:us.toArray.size=1 then us.toArray[0] else .tuple us.toArray) w':=by
    have gen:∀ (g:ResultVar→Sem Value),(fn.results.toList.mapM g).run P w'=.ok us w'→(do let vs ← fn.results.mapM g; pure (if h:vs.size=1 then vs[0] else .tuple vs):Sem Value).run P w'=.ok (if h:us.toArray.size=1 then us.toArray[0] else .tuple us.toArray) w':=fun g hg=>by
     rw [Array.mapM_eq_mapM_toList]
     rw [show (List.toArray <$> (fn.results.toList.mapM (m:=Sem) g):Sem _)=(fn.results.toList.mapM (m:=Sem) g) >>= fun l=>pure l.toArray from rfl]
     rw [Sem.run_bind,Sem.run_bind,hg]
     rfl
    exact gen _ hrun
   obtain ⟨u,rfl⟩:∃ u,us=[u]:=by
    match us,hul with
    | [u],_=>exact ⟨u,rfl⟩
   exact ⟨u,by simpa using hrv,by simpa [av] using hur 0 (by simp)⟩
  split at hend
  ·rename_i hret
   obtain ⟨u,hu,hr⟩:=one _ hret
   exact ⟨u,hu,u,fun _=>False,rfl,hs'.fr,.inl ⟨hr.nils_inv,rfl⟩,fun b hb=>hb.elim⟩
  ·rename_i k hret
   obtain ⟨u,hu,hr⟩:=one _ hret
   split at hend
   ·rename_i hO
    have hrow:Q0l w' Sh' (fp' k) (β' k) []:=hs'.ob k _ hO
    have hsm:((mkS T O).O k).isSome:=by show (lkO O k).isSome=true; rw [hO]; rfl
    refine ⟨u,hu,u,fp' k,rfl,hs'.fr,?_,fun b hb=>?_⟩
    ·rw [hr.rs_inv]
     rcases hrow with h | ⟨g,cc,e',cur,h⟩
     ·exact .inl h
     ·exact .inr ⟨g,cc,e',cur,{ h with h:=fun i hi=>by simp at hi }⟩
    ·obtain ⟨_,h2,h3⟩:=hs'.fb k b hsm hb
     exact ⟨h3.resolve_right (fun h=>h),h2⟩
   ·cases hend
  ·cases hend
 obtain ⟨v,hv1,hv2⟩:=key
 rcases he with rfl | rfl
 ·exact ⟨hs'.df,v,hv1,hv2⟩
 ·exact ⟨hs'.df,v,hv1,hv2⟩
end

theorem Qg5 {α:Type} {enc:α→AV} (h:∀ v,plain (enc v)=true) (l:List α):∀ y ∈ List.map enc l,plain y=true:=by
 intro y hy
 obtain ⟨v,_,rfl⟩:=List.mem_map.1 hy
 exact h v
theorem Qg6 {α:Type} {enc:α→AV} (h:∀ v,(cellsOf (enc v)).all plain=true) (l:List α):∀ y ∈ List.map enc l,(cellsOf y).all plain=true:=by
 intro y hy
 obtain ⟨v,_,rfl⟩:=List.mem_map.1 hy
 exact h v
theorem Qg7 {α:Type} {enc:α→AV} {sz:Nat} (h:∀ v,(cellsOf (enc v)).length=sz) (l:List α):∀ y ∈ List.map enc l,(cellsOf y).length=sz:=by
 intro y hy
 obtain ⟨v,_,rfl⟩:=List.mem_map.1 hy
 exact h v
theorem Qg8 {α:Type} {enc:α→AV} {e1 e2:List α} {bytes:Nat} {u:Unit} (h:∀ v,plain (enc v)=true) (hc:Qey (e1.length + e2.length) bytes=some u) :
  (∀ y ∈ List.map enc e1 ++ List.map enc e2,plain y=true)∧((List.map enc e1).length + (List.map enc e2).length) * bytes ≤ 140737488355328:=by
 rw [List.length_map,List.length_map]
 refine ⟨fun y hy=>?_,Qen hc⟩
 rcases List.mem_append.1 hy with hy | hy <;> obtain ⟨v,_,rfl⟩:=List.mem_map.1 hy <;> exact h v
end Go.Am
