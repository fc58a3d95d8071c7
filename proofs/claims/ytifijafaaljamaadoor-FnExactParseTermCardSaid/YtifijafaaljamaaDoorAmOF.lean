/- Calls to which what is lent is given up for good (frozen): the result may lead to it. -/
import Derived.Test.YtifijafaaljamaaDoorAmOU
set_option linter.unusedSimpArgs false
set_option linter.unusedVariables false
namespace Go.Am
open Go.RowKit

section
variable {P:Program} {c:Ctx} {o:Oper} {σ:Q0d}

def Q8a (l:List (Nat × Q0c)):List (Nat × Option Q0c):=l.map fun p=>(p.1,some p.2)
def Q8b (ids:List Nat):List (Nat × Option Q0c):=ids.map fun i=>(i,none)
def Q8c (nt:Nat) (o:Oper) (σ:Q0d) (callee:Operand) (xs:List Operand) (res:AV) (k0:Nat) (P:Program):Option Ev :=
 match Q7y σ callee,o.dst with
 | some (f,fs,caps,ct),some d =>
  let vs:=fs ++ xs.map (opv σ) ++ caps
  bif Nat.blt d nt && vs.all (Q7h σ) && Q86 res then
   some ⟨⟨ct ++ xs.flatMap opr,vs.flatMap (Q7i σ)⟩,⟨[(d,upa res k0)],Q8a (uoa res k0) ++ Q8b (vs.flatMap (Q7i σ)),(uoa res k0).map (·.1)⟩,
    [Q7a P f (vs.map (shv σ)) res [],Q80 P f]⟩
  else none
 | _,_=>none

theorem Q8d {α:Type} (l m:List (Nat × α)) (f:Nat→α) (t:Nat):Q0n (l ++ m) f t=Q0n l (Q0n m f) t:=by
 induction l with
 | nil=>rfl
 | cons p l ih =>
  show (bif Nat.beq t p.1 then p.2 else Q0n (l ++ m) f t)=(bif Nat.beq t p.1 then p.2 else Q0n l (Q0n m f) t)
  rw [ih]
theorem Q8e (ids:List Nat) (O:Nat→Option Q0c) (id:Nat):(id ∉ ids→Q0n (Q8b ids) O id=O id)∧(id ∈ ids→Q0n (Q8b ids) O id=none):=by
 constructor
 ·intro h
  exact Q0o _ _ _ (by simpa [Q8b,List.map_map] using h)
 ·intro h
  obtain ⟨v,hv,he⟩:=Q0q (Q8b ids) O id (by simpa [Q8b,List.map_map] using h)
  simp only [Q8b,List.mem_map,Prod.mk.injEq] at hv
  obtain ⟨i,_,rfl,rfl⟩:=hv
  exact he
theorem Q8f (l:List (Nat × Q0c)) (O:Nat→Option Q0c) (id:Nat):(id ∉ l.map (·.1)→Q0n (Q8a l) O id=O id)∧(∀ o,id ∈ l.map (·.1)→Q0n (Q8a l) O id=some o→(id,o) ∈ l):=by
 constructor
 ·intro h
  exact Q0o _ _ _ (by simpa [Q8a,List.map_map] using h)
 ·intro o h ho
  obtain ⟨v,hv,he⟩:=Q0q (Q8a l) O id (by simpa [Q8a,List.map_map] using h)
  simp only [Q8a,List.mem_map,Prod.mk.injEq] at hv
  obtain ⟨p,hp,rfl,rfl⟩:=hv
  rw [he] at ho
  cases ho
  exact hp
theorem Q8g (l:List (Nat × Q0c)) (ids:List Nat) (O:Nat→Option Q0c) (id:Nat) :
  (id ∉ l.map (·.1)→id ∉ ids→Q0n (Q8a l ++ Q8b ids) O id=O id)∧(∀ o,(id ∈ l.map (·.1)∨id ∈ ids)→Q0n (Q8a l ++ Q8b ids) O id=some o→(id,o) ∈ l):=by
 rw [Q8d]
 constructor
 ·intro h1 h2
  rw [(Q8f l _ id).1 h1,(Q8e ids O id).1 h2]
 ·intro o h ho
  by_cases h1:id ∈ l.map (·.1)
  ·exact (Q8f l _ id).2 o h1 ho
  ·rw [(Q8f l _ id).1 h1] at ho
   rw [(Q8e ids O id).2 (h.resolve_left h1)] at ho
   cases ho

theorem Q8h (callee:Operand) (xs:List Operand) (ho:Q7z P o callee xs) (res:AV) (k0:Nat):Q2o P c o σ (Q8c c.nt o σ callee xs res k0 P):=by
 unfold Q8c
 split
 ·rename_i f fs caps ct d hcal hd
  refine .ite (fun hb=>?_) (fun _=>.none)
  simp only [Bool.and_eq_true,List.all_eq_true] at hb
  obtain ⟨⟨hdn,hok⟩,hup⟩:=hb
  have hdn:d < c.nt:=by simpa [Nat.blt_eq] using hdn
  intro ev he
  simp only [Option.some.injEq] at he
  subst he
  intro hobs τ hag hfr a w hsr K Q hK
  obtain ⟨β,fp,Sh,hs⟩:=hsr
  have hsound:Q7a P f ((fs ++ xs.map (opv σ) ++ caps).map (shv σ)) res []:=hobs _ List.mem_cons_self
  have hbody:Q80 P f:=hobs _ (List.mem_cons_of_mem _ List.mem_cons_self)
  obtain ⟨ff,cc,hce,⟨hfs,hfr'⟩,hcs,hcr⟩:=Q84 hs hcal (fun t ht=>hag.1 t (List.mem_append_left _ ht))
  generalize hvs:fs ++ xs.map (opv σ) ++ caps=vs at *
  have hrep:∀ i,i < vs.length→Q0i w Sh β ((ff.toList ++ xs.map a.eval ++ cc.toList).getD i undef) (av vs i):=by
   intro i hi
   subst hvs
   have hxs:(ff.toList ++ xs.map a.eval).length=(fs ++ xs.map (opv σ)).length:=by simp [hfs]
   by_cases h:i < (fs ++ xs.map (opv σ)).length
   ·rw [Q5z h]
    have e0:(ff.toList ++ xs.map a.eval ++ cc.toList).getD i undef=(ff.toList ++ xs.map a.eval).getD i undef:=by
     rw [List.getD_eq_getElem?_getD,List.getD_eq_getElem?_getD,List.getElem?_append_left (by omega)]
    rw [e0]
    by_cases h':i < fs.length
    ·rw [Q5z h']
     have e1:(ff.toList ++ xs.map a.eval).getD i undef=ff.getD i undef:=by
      rw [List.getD_eq_getElem?_getD,List.getElem?_append_left (by simp; omega)]
      simp [Array.getD_eq_getD_getElem?]
     rw [e1]
     exact hfr' i h'
    ·have hle:fs.length ≤ i:=by omega
     have hx:i - fs.length < xs.length:=by simp at h; omega
     rw [Q60 hle]
     have e1:(ff.toList ++ xs.map a.eval).getD i undef=a.eval xs[i - fs.length]:=by
      rw [List.getD_eq_getElem?_getD,List.getElem?_append_right (by simp; omega)]; simp [hfs,hx]
     have e2:av (xs.map (opv σ)) (i - fs.length)=opv σ xs[i - fs.length]:=by simp [av,List.getD_eq_getElem?_getD,hx]
     rw [e1,e2,← Q2k xs[i - fs.length] (fun t ht=>hag.1 t (List.mem_append_right _ (List.mem_flatMap.2 ⟨_,List.getElem_mem hx,ht⟩)))]
     exact hs.opd _
   ·have hle:(fs ++ xs.map (opv σ)).length ≤ i:=by omega
    rw [Q60 hle]
    have e1:(ff.toList ++ xs.map a.eval ++ cc.toList).getD i undef=cc.getD (i - (fs ++ xs.map (opv σ)).length) undef:=by
     rw [List.getD_eq_getElem?_getD,List.getElem?_append_right (by omega),hxs]
     simp [Array.getD_eq_getD_getElem?]
    rw [e1]
    exact hcr _ (by simp at hi hle ⊢; omega)
  have hlenv:(ff.toList ++ xs.map a.eval ++ cc.toList).length=vs.length:=by subst hvs; simp; omega
  have hLent:∀ b,Q7j τ fp (vs.flatMap (Q7i σ)) b→¬ Sh b∧b < w.heap.size:=fun b ⟨id,_,h1,h2⟩=>⟨(hs.fb id b h1 h2).1,(hs.fb id b h1 h2).2.1⟩
  have hcall:=hsound w (fun b=>Sh b∨Q7j τ fp (vs.flatMap (Q7i σ)) b) (fun _ _=>False) (ff.toList ++ xs.map a.eval ++ cc.toList) ⟨fun b hb=>hb.elim (fun h=>(hs.shl b h).1) (fun h=>(hLent b h).2),hs.shok.g.mono (fun _ _ _=>rfl) (fun _ hb=>.inl hb)⟩ (by rw [hlenv,List.length_map])
   (fun i hi=>by
    rw [List.length_map] at hi
    rw [Q73 _ hi]
    exact .val _ _ _ (Q7m hs (hrep i hi) (hok _ (Q5x hi)) (fun id hid=>hag.2 id (List.mem_flatMap.2 ⟨_,Q5x hi,hid⟩)) _ (fun id hid=>List.mem_flatMap.2 ⟨_,Q5x hi,hid⟩)))
   (fun i b _ h=>h.elim) (fun i i' b _ _ h=>h.elim)
  unfold Oper.wp
  rw [Q81 ho hce hbody]
  show Calls P f (ff ++ (xs.map a.eval).toArray ++ cc) w _
  have harr:ff ++ (xs.map a.eval).toArray ++ cc=(ff.toList ++ xs.map a.eval ++ cc.toList).toArray:=by apply Array.ext'; simp
  rw [harr]
  refine hcall.mono ?_
  rintro e w' ⟨v,Sh',S',Ss',rfl,hfrm,hS1,hS2,hown,_,hSf,_,_,_⟩
  have hfrm':Fr (fun _=>False) w w':=hfrm.mono (fun b _ ⟨_,_,h⟩=>h)
  show K (a.put o.dst v) w'
  rw [hd]
  obtain ⟨hv,F,hr,ht⟩:=Q89 res k0 hown hup
  have hnewk:∀ p ∈ uoa res k0,¬ Q0h τ p.1∧τ.O p.1=none:=fun p hp=>hfr p.1 (List.mem_map.2 ⟨p,hp,rfl⟩)
  generalize hids:vs.flatMap (Q7i σ)=ids at *
  classical
  have hres:=hs.resetG (w':=w') (Sh':=Sh') (β':=fun k=>if k ∈ (uoa res k0).map (·.1) then hv k else β k) (fp':=fun k=>if k ∈ (uoa res k0).map (·.1) then F k else fp k) (fun k=>k ∈ (uoa res k0).map (·.1)∨k ∈ ids) (Q0n (Q8a (uoa res k0) ++ Q8b ids) τ.O)
   (fun id hid=>(Q8g _ _ _ id).1 (fun h=>hid (.inl h)) (fun h=>hid (.inr h))) (fun id hid=>⟨if_neg (fun h=>hid (.inl h)),if_neg (fun h=>hid (.inl h))⟩)
   (fun id hid=>by
    by_cases hn:id ∈ (uoa res k0).map (·.1)
    ·obtain ⟨p,hp,rfl⟩:=List.mem_map.1 hn; exact .inl (hnewk p hp).1
    ·refine .inr ⟨if_neg hn,fun h=>?_⟩
     obtain ⟨o',ho'⟩:=Option.isSome_iff_exists.1 h
     have hys:=(Q8g _ _ _ id).2 o' hid ho'
     exact absurd (List.mem_map.2 ⟨_,hys,rfl⟩) hn)
   (hfrm'.mono (fun _ _ h=>h.elim)) (fun b hb=>hS1 b (.inl hb))
   (fun b hb=>⟨(hS2 b hb).1,by
    rcases (hS2 b hb).2 with (h | ⟨id,h1,h2,h3⟩) | h | ⟨_,_,h⟩
    ·exact .inl h
    ·exact .inr (.inr ⟨id,.inr h1,h2,h3⟩)
    ·exact .inr (.inl h)
    ·exact h.elim⟩)
   (fun id o' hid ho'=>by
    have hys:=(Q8g _ _ _ id).2 o' hid ho'
    have hn:id ∈ (uoa res k0).map (·.1):=List.mem_map.2 ⟨_,hys,rfl⟩
    simp only [if_pos hn]
    exact hr.rep _ hys _ (fun q hq=>if_pos (List.mem_map.2 ⟨q,hq,rfl⟩)))
   (fun id b hid hsome hb=>by
    obtain ⟨o',ho'⟩:=Option.isSome_iff_exists.1 hsome
    have hys:=(Q8g _ _ _ id).2 o' hid ho'
    have hn:id ∈ (uoa res k0).map (·.1):=List.mem_map.2 ⟨_,hys,rfl⟩
    simp only [if_pos hn] at hb
    have:=hSf b (hr.sub _ hys b hb)
    refine ⟨this.1,this.2.1,.inr ?_⟩
    rcases this.2.2 with h | ⟨_,_,h⟩
    ·exact h
    ·exact h.elim)
   (fun id id' b hid hid' hsome hsome' h1 h2=>by
    obtain ⟨o',ho'⟩:=Option.isSome_iff_exists.1 hsome
    have hys:=(Q8g _ _ _ id).2 o' hid ho'
    obtain ⟨o'',ho''⟩:=Option.isSome_iff_exists.1 hsome'
    have hzs:=(Q8g _ _ _ id').2 o'' hid' ho''
    have hn:id ∈ (uoa res k0).map (·.1):=List.mem_map.2 ⟨_,hys,rfl⟩
    have hn':id' ∈ (uoa res k0).map (·.1):=List.mem_map.2 ⟨_,hzs,rfl⟩
    simp only [if_pos hn] at h1
    simp only [if_pos hn'] at h2
    exact hr.dj _ hys _ hzs b h1 h2)
  have:=hres.put d hdn v (upa res k0) (ht _ (fun p hp=>by
   show (if p.1 ∈ (uoa res k0).map (·.1) then hv p.1 else β p.1)=hv p.1
   rw [if_pos (List.mem_map.2 ⟨p,hp,rfl⟩)]))
  exact hK _ _ ⟨_,_,Sh',this⟩
 ·exact .none
end
theorem Q7a.shr {P:Program} {f:FuncId} {args outs:List AV} {res:AV} (h:Q7a P f args res outs):Q7a P f args (share res) outs:=by
 intro w Sh Ss vs h1 h2 h3 h4 h5
 refine (h w Sh Ss vs h1 h2 h3 h4 h5).mono ?_
 rintro e w' ⟨v,Sh',S',Ss',rfl,hfr,hS1,hS2,hown,houts,hSf,hSf2,hd1,hd2⟩
 refine ⟨v,fun b=>Sh' b∨S' b,fun _=>False,Ss',rfl,hfr,fun b hb=>.inl (hS1 b hb),fun b hb=>?_,.val _ _ _ hown.share,fun i hi=>(houts i hi).mono (fun _ _=>rfl) (fun _ _=>rfl) (fun _ hb=>.inl hb) (fun _ hb=>hb),fun b hb=>hb.elim,fun i b hi hb=>?_,fun i b hi hb=>hb.elim,hd2⟩
 ·rcases hb with hb | hb
  ·exact hS2 b hb
  ·exact ⟨(hSf b hb).2.1,.inr (hSf b hb).2.2⟩
 ·obtain ⟨q1,q2⟩:=hSf2 i b hi hb
  exact ⟨fun h=>h.elim q1 (fun h=>hd1 i b hi h hb),q2⟩
theorem Q7a.res {P:Program} {f:FuncId} {args outs:List AV} {r1 r2:AV} (e:r1=r2) (h:Q7a P f args r1 outs):Q7a P f args r2 outs:=e ▸ h
def wkc:List AV→List AV→Prop
 | [],[]=>True
 | x :: xs,y :: ys=>(y=x∨y=.undef)∧wkc xs ys
 | _,_=>False
theorem Q8i:∀ {cs cs':List AV},wkc cs cs'→cs'.length=cs.length∧∀ i,av cs' i=av cs i∨av cs' i=.undef
 | [],[],_=>⟨rfl,fun _=>.inl rfl⟩
 | x :: xs,y :: ys,⟨h,hr⟩=>⟨by simp [(Q8i hr).1],fun i=>by
   cases i with
   | zero=>exact h
   | succ i=>exact (Q8i hr).2 i⟩
 | [],_ :: _,h=>h.elim
 | _ :: _,[],h=>h.elim
theorem Q04.weak {w:World} {Sh S:Nat→Prop} {v:Value} {cs cs':List AV} (h:Q04 w Sh S v (.agg cs)) (hw:wkc cs cs'):Q04 w Sh S v (.agg cs'):=by
 obtain ⟨hl,hc⟩:=Q8i hw
 cases h with
 | val _ _ _ h =>
  cases h with
  | agg c _ hs h =>
   refine .val _ _ _ (.agg c cs' (hs.trans hl.symm) (fun i hi=>?_))
   rcases hc i with e | e
   ·rw [e]; exact h i (hl ▸ hi)
   ·rw [e]; exact .undef _
 | agg _ c _ Si hs h hS hd =>
  refine .agg _ c cs' Si (hs.trans hl.symm) (fun i hi=>?_) (fun i b hi=>hS i b (hl ▸ hi)) (fun i i' b hi hi'=>hd i i' b (hl ▸ hi) (hl ▸ hi'))
  rcases hc i with e | e
  ·rw [e]; exact h i (hl ▸ hi)
  ·rw [e]; exact .val _ _ _ (.undef _)
theorem Q7a.weak {P:Program} {f:FuncId} {args outs cs cs':List AV} (hw:wkc cs cs') (h:Q7a P f args (.agg cs) outs):Q7a P f args (.agg cs') outs:=by
 intro w Sh Ss vs h1 h2 h3 h4 h5
 refine (h w Sh Ss vs h1 h2 h3 h4 h5).mono ?_
 rintro e w' ⟨v,Sh',S',Ss',rfl,hfr,hS1,hS2,hown,hr⟩
 exact ⟨v,Sh',S',Ss',rfl,hfr,hS1,hS2,hown.weak hw,hr⟩
end Go.Am
